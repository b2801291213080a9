/- Quotes: what is told, and that it is unquoted as it was. -/
import Derived.Test.YtefpkpiadnpkeaaShU
import Derived.Test.YtefpkpiadnpkeaaGKL3
namespace Go.Proofs.Ytefpkpiadnpkeaa
def qm (c : UInt8) : List UInt8 := if c.toNat = 34 then 92 :: mk c else mk c
def quoteL (b : List UInt8) : List UInt8 := [34] ++ (b.flatMap qm ++ [34])
def refqm (c : UInt8) : List UInt8 := if c.toNat = 34 then [92, 34] else mk c
theorem qm_all : ((List.range 256).all fun n => decide (qm (UInt8.ofNat n) = refqm (UInt8.ofNat n)) && (decide (1 ≤ (qm (UInt8.ofNat n)).length ∧ (qm (UInt8.ofNat n)).length ≤ 5) && (qm (UInt8.ofNat n)).all fun x => decide (32 ≤ x.toNat ∧ x.toNat ≤ 126))) = true := by kernel_rfl
theorem qm_facts (c : UInt8) : qm c = refqm c ∧ (1 ≤ (qm c).length ∧ (qm c).length ≤ 5) ∧ ∀ x ∈ qm c, 32 ≤ x.toNat ∧ x.toNat ≤ 126 := by
  have := all_byte (P := fun c => decide (qm c = refqm c) && (decide (1 ≤ (qm c).length ∧ (qm c).length ≤ 5) && (qm c).all fun x => decide (32 ≤ x.toNat ∧ x.toNat ≤ 126))) qm_all c
  rw [Bool.and_eq_true, Bool.and_eq_true] at this
  exact ⟨of_decide_eq_true this.1, of_decide_eq_true this.2.1, fun x hx => of_decide_eq_true (List.all_eq_true.1 this.2.2 x hx)⟩
theorem flat_len_le (b : List UInt8) : (b.flatMap qm).length ≤ 5 * b.length := by
  induction b with
  | nil => simp
  | cons c b ih =>
    rw [List.flatMap_cons, List.length_append, List.length_cons]
    have := (qm_facts c).2.1.2
    omega
theorem take_flat {b : List UInt8} {k : Nat} {c : UInt8} (f : UInt8 → List UInt8) (h : b[k]? = some c) : (b.take (k + 1)).flatMap f = (b.take k).flatMap f ++ f c := by
  rw [List.take_add_one, h, List.flatMap_append]; simp
theorem quote_ok (b : List UInt8) (hb : b.length ≤ 200) : show_Quote_R b ⟨(quoteL b).toArray⟩ := by
  refine ⟨[34], room_ (by simp) (by omega) rfl, ?_⟩
  refine loop_ (fun (st : Int × List UInt8) m => ∃ k : Nat, k ≤ b.length ∧ m = b.length - k ∧ st = ((k : Int), [34] ++ (b.take k).flatMap qm)) b.length ⟨0, by omega, rfl, by simp⟩ ?_
  rintro _ m ⟨k, hk, rfl, rfl⟩
  show show_Quote_l1 b _ (k : Int) ([34] ++ (b.take k).flatMap qm) _
  have hfl := flat_len_le (b.take k)
  rw [List.length_take] at hfl
  refine split_ (fun h => at_ (by omega) (by omega) fun c hc => ?_) fun h => ?_
  · rw [Int.toNat_natCast] at hc
    have hml := mk_len c
    have hmk : (mkA c).data.toList = mk c := rfl
    have hms : (mkA c).size = (mk c).length := rfl
    have hnext : ∀ out, out ++ mk c = [34] ++ (b.take (k + 1)).flatMap qm → out.length ≤ 2000 → show_Quote_j2 c (k : Int) (fun s' => ∃ m', m' < b.length - k ∧ ∃ k : Nat, k ≤ b.length ∧ m' = b.length - k ∧ s' = ((k : Int), [34] ++ (b.take k).flatMap qm)) out ⟨(quoteL b).toArray⟩ := by
      intro out ho hol
      refine ⟨_, mark_ok c, _, room_ (by rw [hmk]; omega) (by omega) rfl, inR_ (by omega) ⟨b.length - (k + 1), by omega, k + 1, by omega, rfl, ?_⟩⟩
      rw [hmk, ho]; rfl
    refine split_ (fun h34 => ⟨_, room_ (by simp only [List.length_append, List.length_cons, List.length_nil]; omega) (by omega) rfl, hnext _ ?_ (by simp only [List.length_append, List.length_cons, List.length_nil]; omega)⟩) fun h34 => hnext _ ?_ (by simp only [List.length_append, List.length_cons, List.length_nil]; omega)
    · rw [take_flat qm hc]
      have : qm c = 92 :: mk c := by unfold qm; rw [if_pos (by omega)]
      rw [this]; simp
    · rw [take_flat qm hc]
      have : qm c = mk c := by unfold qm; rw [if_neg (by omega)]
      rw [this]; simp
  · rw [List.take_of_length_le (by omega)]
    refine ⟨_, room_ (by have := flat_len_le b; simp only [List.length_append, List.length_cons, List.length_nil]; omega) (by omega) rfl, by simp, ?_⟩
    unfold quoteL
    simp
theorem refquote_ok (b : List UInt8) (hb : b.length ≤ 200) : palinoderef04_Quote_R b ⟨(quoteL b).toArray⟩ := by
  refine loop_ (fun (st : ByteArray × Int) m => ∃ k : Nat, k ≤ b.length ∧ m = b.length - k ∧ st.2 = (k : Int) ∧ st.1.data.toList = [34] ++ (b.take k).flatMap qm) b.length ⟨0, by omega, rfl, rfl, by simp⟩ ?_
  rintro ⟨o, i⟩ m ⟨k, hk, rfl, hi, ho⟩
  simp only at hi ho
  subst hi
  show palinoderef04_Quote_l1 b _ o (k : Int) _
  have hfl := flat_len_le (b.take k)
  rw [List.length_take] at hfl
  have hol : o.size = 1 + ((b.take k).flatMap qm).length := by rw [ba_size, ho, List.length_append]; rfl
  refine split_ (fun h => at_ (by omega) (by omega) fun c hc => ?_) fun h => ?_
  · have hc0 := hc
    rw [Int.toNat_natCast] at hc
    have hq := (qm_facts c).1
    have hnext : ∀ out : ByteArray, out.data.toList = o.data.toList ++ qm c → palinoderef04_Quote_j2 (k : Int) (fun s' => ∃ m', m' < b.length - k ∧ ∃ k : Nat, k ≤ b.length ∧ m' = b.length - k ∧ s'.2 = (k : Int) ∧ s'.1.data.toList = [34] ++ (b.take k).flatMap qm) out ⟨(quoteL b).toArray⟩ := by
      intro out h2
      refine inR_ (by omega) ⟨b.length - (k + 1), by omega, k + 1, by omega, rfl, rfl, ?_⟩
      rw [h2, ho, take_flat qm hc, List.append_assoc]
    have hs2 : ((⟨#[92, 34]⟩ : ByteArray)).size = 2 := rfl
    have hms : (mkA c).size = (mk c).length := rfl
    have hml := mk_len c
    refine split_ (fun h34 => inR_ (by rw [hs2]; omega) (hnext _ ?_)) fun h34 => ⟨by omega, c, hc0, _, refmark_ok c, inR_ (by omega) (hnext _ ?_)⟩
    · rw [ba_app, hq]; unfold refqm; rw [if_pos (by omega)]
    · rw [ba_app, hq]; unfold refqm; rw [if_neg (by omega)]; rfl
  · rw [List.take_of_length_le (by omega)] at ho
    have hs1 : ((⟨#[34]⟩ : ByteArray)).size = 1 := rfl
    refine inR_ (by rw [hs1]; omega) (ba_ext ?_)
    rw [ba_app, ho]
    unfold quoteL
    simp
/-- A byte's quote, as it is read again. -/
def readB (c : UInt8) : Bool := match qm c with
  | [] => false
  | y :: t => if y.toNat = 92 then decide ((escL t).1 = c ∧ (escL t).2.2 = 0 ∧ (escL t).2.1 = (t.length : Int)) else decide (y = c ∧ t = [] ∧ y.toNat ≠ 34)
theorem read_all : ((List.range 256).all fun n => readB (UInt8.ofNat n)) = true := by kernel_rfl
theorem unq_qm (b rest : List UInt8) : ∀ (n : Nat) (out : List UInt8) (a : Nat), b.length < n → unqL n (b.flatMap qm ++ 34 :: rest) out a = (out ++ b, ((a + (b.flatMap qm).length + 1 : Nat) : Int), 0) := by
  induction b with
  | nil =>
    intro n out a h
    obtain ⟨n, rfl⟩ : ∃ j, n = j + 1 := ⟨n - 1, by rw [List.length_nil] at h; omega⟩
    rw [List.flatMap_nil, List.nil_append, unqL_cons, if_pos (show (34 : UInt8).toNat = 34 from rfl), List.append_nil]
    rfl
  | cons c b ih =>
    intro n out a h
    rw [List.length_cons] at h
    obtain ⟨n, rfl⟩ : ∃ j, n = j + 1 := ⟨n - 1, by omega⟩
    have hr := all_byte (P := readB) read_all c
    unfold readB at hr
    cases hq : qm c with
    | nil => rw [hq] at hr; cases hr
    | cons y t =>
      rw [hq] at hr
      simp only at hr
      rw [List.flatMap_cons, hq, List.cons_append, List.cons_append, List.append_assoc, unqL_cons]
      by_cases h92 : y.toNat = 92
      · rw [if_pos h92] at hr
        obtain ⟨h1, h2, h3⟩ := of_decide_eq_true hr
        rw [if_neg (by omega), if_pos h92, escL_app _ _ h2, if_pos h2, h1, h3, Int.toNat_natCast, List.drop_left, ih n _ _ (by omega)]
        rw [List.append_assoc, List.length_cons, List.length_append]
        refine Prod.ext rfl (Prod.ext ?_ rfl)
        show ((_ : Nat) : Int) = ((_ : Nat) : Int)
        congr 1; omega
      · rw [if_neg h92] at hr
        obtain ⟨h1, h2, h3⟩ := of_decide_eq_true hr
        subst h1 h2
        rw [if_neg h3, if_neg h92, List.nil_append, ih n _ _ (by omega)]
        rw [List.append_assoc, List.length_cons]
        refine Prod.ext rfl (Prod.ext ?_ rfl)
        show ((_ : Nat) : Int) = ((_ : Nat) : Int)
        congr 1; rw [List.nil_append]; omega
theorem flat_len_ge (b : List UInt8) : b.length ≤ (b.flatMap qm).length := by
  induction b with
  | nil => simp
  | cons c b ih =>
    rw [List.flatMap_cons, List.length_append, List.length_cons]
    have := (qm_facts c).2.1.1
    omega
theorem unq_quote (f b r : List UInt8) : unq (f ++ quoteL b ++ r) (f.length : Int) = (b, ((f.length + (quoteL b).length : Nat) : Int), 0) := by
  unfold unq
  rw [if_neg (by rw [List.length_append, List.length_append]; omega), Int.toNat_natCast, List.append_assoc, List.drop_left]
  unfold quoteL
  simp only [List.cons_append, List.nil_append, List.append_assoc]
  rw [if_pos (show (34 : UInt8).toNat = 34 from rfl), unq_qm]
  · rw [List.nil_append]
    refine Prod.ext rfl (Prod.ext ?_ rfl)
    show ((_ : Nat) : Int) = ((_ : Nat) : Int)
    congr 1
    simp only [List.length_cons, List.length_append, List.length_nil]
    omega
  · have := flat_len_ge b
    simp only [List.length_cons, List.length_append]
    omega
theorem quotes_law (b : List UInt8) (f r : ByteArray) : palinodelaw04_ShowQuotes_R b f r true := by
  show palinodelaw04_ShowQuotes_j1 b f r _ true
  by_cases h : 200 < (b.length : Int) ∨ 20 < (f.size : Int) ∨ 20 < (r.size : Int)
  · rw [show ((decide (200 < (b.length : Int))) || ((decide (20 < (f.size : Int))) || (decide (20 < (r.size : Int))))) = true from by simpa [Bool.or_eq_true, decide_eq_true_eq] using h]
    exact split_ (fun _ => ⟨true, shawake, rfl⟩) fun h => absurd rfl h
  · rw [show ((decide (200 < (b.length : Int))) || ((decide (20 < (f.size : Int))) || (decide (20 < (r.size : Int))))) = false from by simpa [Bool.or_eq_false_iff, decide_eq_false_iff_not] using h]
    rw [not_or, not_or] at h
    have hfl := flat_len_le b
    have hql : (quoteL b).length = 2 + (b.flatMap qm).length := by unfold quoteL; simp only [List.length_cons, List.length_append, List.length_nil]; omega
    let q : ByteArray := ⟨(quoteL b).toArray⟩
    have hqd : q.data.toList = quoteL b := rfl
    have hqs : q.size = (quoteL b).length := rfl
    refine split_ (fun h => by cases h) fun _ => ⟨q, quote_ok b (by omega), ?_⟩
    refine loop_ (fun (st : Int) m => ∃ k : Nat, k ≤ q.size ∧ m = q.size - k ∧ st = (k : Int)) q.size ⟨0, by omega, rfl, rfl⟩ ?_
    rintro _ m ⟨k, hk, rfl, rfl⟩
    show palinodelaw04_ShowQuotes_l2 q f r b _ (k : Int) true
    refine split_ (fun h2 => ?_) fun h2 => ?_
    · obtain ⟨x, hx⟩ : ∃ x, (quoteL b)[k]? = some x := ⟨_, List.getElem?_eq_getElem (by omega)⟩
      have hx0 : q[(k : Int).toNat]? = some x := by rw [ba_at, Int.toNat_natCast, hqd, hx]
      have hseen : 32 ≤ x.toNat ∧ x.toNat ≤ 126 := by
        have := List.mem_of_getElem? hx
        unfold quoteL at this
        rw [List.mem_append, List.mem_append] at this
        rcases this with h | h | h
        · rw [List.mem_singleton.1 h]; decide
        · obtain ⟨c, _, hc⟩ := List.mem_flatMap.1 h
          exact (qm_facts c).2.2 x hc
        · rw [List.mem_singleton.1 h]; decide
      refine ⟨by omega, x, hx0, split_ (fun h => absurd h (by omega)) fun _ => ⟨by omega, x, hx0, split_ (fun h => absurd h (by omega)) fun _ => inR_ (by omega) ⟨q.size - (k + 1), by omega, k + 1, by omega, rfl, rfl⟩⟩⟩
    · have hall : ((f ++ q) ++ r).data.toList = f.data.toList ++ quoteL b ++ r.data.toList := by rw [ba_app, ba_app]
      have hu := unquote_ok ((f ++ q) ++ r) (f.size : Int) (by rw [ba_size, hall, List.length_append, List.length_append, ← ba_size, ← ba_size]; omega)
      rw [hall, show (f.size : Int) = (f.data.toList.length : Int) from rfl, unq_quote] at hu
      have hfq : (f ++ q).size = f.size + q.size := by rw [ba_size, ba_app, List.length_append]; rfl
      refine inR_ (by omega) (inR_ (by omega) ⟨_, hu, q, refquote_ok b (by omega), split_ (fun _ => split_ (fun _ => inR_ (by omega) (split_ (fun _ => ⟨_, shsame2_ok b b (by omega), split_ (fun _ => ⟨true, shawake, rfl⟩) fun h => absurd (decide_eq_true rfl) h⟩) fun h => absurd ?_ h)) fun h => absurd rfl h) fun h => absurd (beq_self_eq_true _) h⟩)
      show ((f.data.toList.length + (quoteL b).length : Nat) : Int) = (f.size : Int) + (q.size : Int)
      rw [hqs, ba_size]; omega
end Go.Proofs.Ytefpkpiadnpkeaa
