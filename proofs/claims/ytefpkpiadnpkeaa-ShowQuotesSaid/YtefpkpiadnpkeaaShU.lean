/- Unquoting: both programs against one plain text. -/
import Derived.Test.YtefpkpiadnpkeaaShM
namespace Go.Proofs.Ytefpkpiadnpkeaa
def ltrs : List UInt8 := [97, 98, 116, 110, 118, 102, 114]
def octL : Nat → Nat → List UInt8 → UInt8 × Int × Int
  | 0, sum, _ => if 255 < sum then (0, 0, 10) else (UInt8.ofNat sum, 3, 0)
  | _ + 1, _, [] => (0, 0, 2)
  | k + 1, sum, x :: t => if 48 ≤ x.toNat ∧ x.toNat ≤ 55 then octL k (sum * 8 + (x.toNat - 48)) t else (0, 0, 10)
def escL : List UInt8 → UInt8 × Int × Int
  | [] => (0, 0, 2)
  | x :: t => if x.toNat = 92 ∨ x.toNat = 34 then (x, 1, 0) else if 0 ≤ idxB ltrs x then (UInt8.ofNat (7 + (idxB ltrs x).toNat), 1, 0) else octL 3 0 (x :: t)
theorem escL_cons (x : UInt8) (t : List UInt8) : escL (x :: t) = if x.toNat = 92 ∨ x.toNat = 34 then (x, 1, 0) else if 0 ≤ idxB ltrs x then (UInt8.ofNat (7 + (idxB ltrs x).toNat), 1, 0) else octL 3 0 (x :: t) := rfl
theorem octL_cons (k s : Nat) (x : UInt8) (t : List UInt8) : octL (k + 1) s (x :: t) = if 48 ≤ x.toNat ∧ x.toNat ≤ 55 then octL k (s * 8 + (x.toNat - 48)) t else (0, 0, 10) := rfl
theorem octL_n (k s : Nat) (l : List UInt8) (h : (octL k s l).2.2 = 0) : (octL k s l).2.1 = 3 ∧ k ≤ l.length := by
  induction k generalizing s l with
  | zero =>
    unfold octL at h ⊢
    by_cases h1 : 255 < s
    · rw [if_pos h1] at h; exact absurd h (by decide)
    · rw [if_neg h1]; exact ⟨rfl, by omega⟩
  | succ k ih =>
    cases l with
    | nil => exact absurd h (by unfold octL; decide)
    | cons x t =>
      unfold octL at h ⊢
      by_cases h1 : 48 ≤ x.toNat ∧ x.toNat ≤ 55
      · rw [if_pos h1] at h ⊢
        have := ih _ _ h
        exact ⟨this.1, by rw [List.length_cons]; omega⟩
      · rw [if_neg h1] at h; exact absurd h (by decide)
theorem octL_app (k s : Nat) (l r : List UInt8) (h : (octL k s l).2.2 = 0) : octL k s (l ++ r) = octL k s l := by
  induction k generalizing s l with
  | zero => rfl
  | succ k ih =>
    cases l with
    | nil => exact absurd h (by unfold octL; decide)
    | cons x t =>
      rw [List.cons_append]
      unfold octL at h ⊢
      by_cases h1 : 48 ≤ x.toNat ∧ x.toNat ≤ 55
      · rw [if_pos h1] at h
        rw [if_pos h1, if_pos h1]
        exact ih _ _ h
      · rw [if_neg h1] at h; exact absurd h (by decide)
theorem escL_n (l : List UInt8) (h : (escL l).2.2 = 0) : ((escL l).2.1 = 1 ∨ (escL l).2.1 = 3) ∧ (escL l).2.1 ≤ (l.length : Int) := by
  cases l with
  | nil => exact absurd h (by unfold escL; decide)
  | cons x t =>
    rw [escL_cons] at h ⊢
    by_cases h1 : x.toNat = 92 ∨ x.toNat = 34
    · rw [if_pos h1]; exact ⟨Or.inl rfl, by rw [List.length_cons]; show (1 : Int) ≤ _; omega⟩
    · rw [if_neg h1] at h ⊢
      by_cases h2 : 0 ≤ idxB ltrs x
      · rw [if_pos h2]; exact ⟨Or.inl rfl, by rw [List.length_cons]; show (1 : Int) ≤ _; omega⟩
      · rw [if_neg h2] at h ⊢
        have := octL_n _ _ _ h
        exact ⟨Or.inr this.1, by rw [this.1]; omega⟩
theorem escL_app (l r : List UInt8) (h : (escL l).2.2 = 0) : escL (l ++ r) = escL l := by
  cases l with
  | nil => exact absurd h (by unfold escL; decide)
  | cons x t =>
    rw [List.cons_append, escL_cons]
    rw [escL_cons] at h ⊢
    by_cases h1 : x.toNat = 92 ∨ x.toNat = 34
    · rw [if_pos h1, if_pos h1]
    · rw [if_neg h1] at h
      rw [if_neg h1, if_neg h1]
      by_cases h2 : 0 ≤ idxB ltrs x
      · rw [if_pos h2, if_pos h2]
      · rw [if_neg h2] at h
        rw [if_neg h2, if_neg h2]
        exact octL_app 3 0 (x :: t) r h
def unqL : Nat → List UInt8 → List UInt8 → Nat → List UInt8 × Int × Int
  | 0, _, _, _ => ([], 0, 2)
  | _ + 1, [], _, _ => ([], 0, 2)
  | n + 1, c :: t, out, at_ =>
    if c.toNat = 34 then (out, ((at_ + 1 : Nat) : Int), 0)
    else if c.toNat = 92 then
      if (escL t).2.2 = 0 then unqL n (t.drop (escL t).2.1.toNat) (out ++ [(escL t).1]) (at_ + 1 + (escL t).2.1.toNat) else ([], 0, (escL t).2.2)
    else unqL n t (out ++ [c]) (at_ + 1)
theorem unqL_cons (n : Nat) (c : UInt8) (t out : List UInt8) (at_ : Nat) : unqL (n + 1) (c :: t) out at_ = if c.toNat = 34 then (out, ((at_ + 1 : Nat) : Int), 0)
    else if c.toNat = 92 then
      if (escL t).2.2 = 0 then unqL n (t.drop (escL t).2.1.toNat) (out ++ [(escL t).1]) (at_ + 1 + (escL t).2.1.toNat) else ([], 0, (escL t).2.2)
    else unqL n t (out ++ [c]) (at_ + 1) := rfl
def unq (l : List UInt8) (a : Int) : List UInt8 × Int × Int :=
  if a < 0 ∨ (l.length : Int) < a then ([], 0, 1)
  else match l.drop a.toNat with
    | [] => ([], 0, 9)
    | c :: t => if c.toNat = 34 then unqL (l.length + 1) t [] (a.toNat + 1) else ([], 0, 9)
theorem octal_ok (x : UInt8) : show_isOctal_R x (decide (48 ≤ x.toNat ∧ x.toNat ≤ 55)) := by
  refine split_ (fun h => ?_) fun h => ?_
  · by_cases h2 : x.toNat ≤ 55
    · have h1 : 48 ≤ x.toNat := by omega
      simp [h1, h2]; omega
    · simp [h2]; omega
  · have h1 : ¬ 48 ≤ x.toNat := by omega
    simp [h1]
theorem ix_all : ((List.range 256).all fun n => decide (idxB ltrs (UInt8.ofNat n) ≤ 6)) = true := by kernel_rfl
theorem ix_le (x : UInt8) : idxB ltrs x ≤ 6 := of_decide_eq_true (all_byte (P := fun x => decide (idxB ltrs x ≤ 6)) ix_all x)
theorem drop_at {l : List UInt8} {k : Nat} {x : UInt8} (h : l[k]? = some x) : l.drop k = x :: l.drop (k + 1) := by
  obtain ⟨h1, h2⟩ := List.getElem?_eq_some_iff.1 h
  rw [List.drop_eq_getElem_cons h1, h2]
/-- The digits. -/
theorem oct_loop (s : ByteArray) : LoopR (fun ag2 st => show_escape_l2 s ag2 st.1 st.2 (octL 3 0 s.data.toList)) ((0 : Int), (0 : Int)) := by
  refine loop_ (fun (st : Int × Int) m => ∃ k v : Nat, k ≤ 3 ∧ m = 3 - k ∧ k ≤ s.data.toList.length ∧ st = ((k : Int), (v : Int)) ∧ v + 1 ≤ 8 ^ k ∧ octL (3 - k) v (s.data.toList.drop k) = octL 3 0 s.data.toList) 3 ⟨0, 0, by omega, rfl, by omega, rfl, by decide, rfl⟩ ?_
  rintro _ m ⟨k, v, hk, rfl, hkl, rfl, hv, hr⟩
  show show_escape_l2 s _ (k : Int) (v : Int) _
  rw [← hr]
  have hv5 : v ≤ 511 := by
    have h8 : (8 : Nat) ^ k ≤ 512 := by
      have hk3 : k = 0 ∨ k = 1 ∨ k = 2 ∨ k = 3 := by omega
      rcases hk3 with rfl | rfl | rfl | rfl <;> decide
    omega
  have hs : s.size = s.data.toList.length := rfl
  refine split_ (fun h => split_ (fun h2 => ?_) fun h2 => ?_) fun h => ?_
  · obtain ⟨j, hj⟩ : ∃ j, 3 - k = j + 1 := ⟨2 - k, by omega⟩
    rw [hj, List.drop_eq_nil_of_le (by omega)]
    rfl
  · obtain ⟨x, hx⟩ : ∃ x, s.data.toList[k]? = some x := ⟨_, List.getElem?_eq_getElem (by omega)⟩
    have hx0 : s[(k : Int).toNat]? = some x := by rw [ba_at, Int.toNat_natCast, hx]
    obtain ⟨j, hj⟩ : ∃ j, 3 - k = j + 1 := ⟨2 - k, by omega⟩
    have hd := drop_at hx
    refine ⟨by omega, x, hx0, _, octal_ok x, split_ (fun h3 => ?_) fun h3 => ?_⟩
    · have h4 : ¬ (48 ≤ x.toNat ∧ x.toNat ≤ 55) := fun h => h3 (decide_eq_true h)
      rw [hj, hd]
      unfold octL
      rw [if_neg h4]
    · have h4 : 48 ≤ x.toNat ∧ x.toNat ≤ 55 := by
        by_cases h : 48 ≤ x.toNat ∧ x.toNat ≤ 55
        · exact h
        · exact absurd (fun e => h (of_decide_eq_true e)) h3
      refine inR_ (by omega) ⟨by omega, x, hx0, exU8 ⟨by omega, by omega⟩ fun c hc => inR_ (by omega) (inR_ (by omega) ⟨3 - (k + 1), by omega, k + 1, v * 8 + (x.toNat - 48), by omega, rfl, by omega, ?_, ?_, ?_⟩)⟩
      · refine Prod.ext ?_ ?_ <;> simp only <;> omega
      · rw [Nat.pow_succ]; omega
      · rw [hj, hd, octL_cons, if_pos h4, show 3 - (k + 1) = j from by omega]
  · have hk3 : k = 3 := by omega
    subst hk3
    rw [show octL (3 - 3) v (s.data.toList.drop 3) = if 255 < v then (0, 0, 10) else (UInt8.ofNat v, 3, 0) from rfl]
    refine split_ (fun h => ?_) fun h => exU8 ⟨by omega, by omega⟩ fun c hc => ?_
    · rw [if_pos (by omega)]
    · rw [if_neg (by omega)]
      have : c = UInt8.ofNat v := UInt8.toNat_inj.1 (by have := u8_of v (by omega); omega)
      rw [this]; rfl
theorem escape_ok (s : ByteArray) : show_escape_R s (escL s.data.toList) := by
  have hcode : (⟨#[97, 98, 116, 110, 118, 102, 114]⟩ : ByteArray).data.toList = ltrs := rfl
  refine split_ (fun h => ?_) fun h => ?_
  · have h2 := eq_of_beq h
    rw [ByteArray.toList_eq, ByteArray.toList_eq] at h2
    rw [h2]; rfl
  · cases hl : s.data.toList with
    | nil =>
      refine absurd ?_ h
      rw [show s = ⟨#[]⟩ from ba_ext hl]
      exact beq_self_eq_true _
    | cons x t =>
      have hx : s[(0 : Int).toNat]? = some x := by rw [ba_at, hl]; rfl
      have hj1 : x.toNat = 92 ∨ x.toNat = 34 → show_escape_j1 s true (escL (x :: t)) := fun h1 => by
        rw [escL_cons, if_pos h1]
        exact split_ (fun _ => ⟨by omega, x, hx, rfl⟩) fun h => absurd rfl h
      have hj2 : ¬ (x.toNat = 92 ∨ x.toNat = 34) → show_escape_j1 s false (escL (x :: t)) := fun h1 => by
        refine split_ (fun h => by cases h) fun _ => ⟨by omega, x, hx, idxB ltrs x, ⟨_, rfl, rfl⟩, split_ (fun h2 => ?_) fun h2 => ?_⟩
        · have := ix_le x
          refine exU8 ⟨h2, by omega⟩ fun c1 hc1 => exU8 ⟨by omega, by omega⟩ fun c2 hc2 => ?_
          rw [escL_cons, if_neg h1, if_pos h2]
          have : c2 = UInt8.ofNat (7 + (idxB ltrs x).toNat) := UInt8.toNat_inj.1 (by have := u8_of (7 + (idxB ltrs x).toNat) (by omega); omega)
          rw [this]
        · have := oct_loop s
          rw [hl] at this
          rw [escL_cons, if_neg h1, if_neg h2]
          exact this
      refine ⟨by omega, x, hx, split_ (fun h1 => hj1 (by omega)) fun h1 => ⟨by omega, x, hx, ?_⟩⟩
      by_cases h3 : (x.toNat : Int) = 34
      · rw [decide_eq_true h3]; exact hj1 (by omega)
      · rw [decide_eq_false h3]; exact hj2 (by omega)
theorem ext_list (s : ByteArray) (k : Nat) : (s.extract k s.size).data.toList = s.data.toList.drop k := by
  rw [ByteArray.data_extract, Array.toList_extract]
  show List.extract s.data.toList k s.data.toList.length = _
  simp [List.extract_eq_take_drop, List.take_of_length_le]
theorem unquote_ok (s : ByteArray) (a : Int) (hs : s.size ≤ 100000) : show_Unquote_R s a (unq s.data.toList a) := by
  have hsz : s.size = s.data.toList.length := rfl
  unfold unq
  by_cases h1 : a < 0 ∨ (s.data.toList.length : Int) < a
  · rw [if_pos h1]
    show show_Unquote_j1 a s _ _
    rw [show ((decide (a < 0)) || (decide ((s.size : Int) < a))) = true from by rw [Bool.or_eq_true, decide_eq_true_eq, decide_eq_true_eq]; exact h1]
    exact split_ (fun _ => rfl) fun h => absurd rfl h
  · rw [if_neg h1]
    show show_Unquote_j1 a s _ _
    rw [show ((decide (a < 0)) || (decide ((s.size : Int) < a))) = false from by rw [Bool.or_eq_false_iff, decide_eq_false_iff_not, decide_eq_false_iff_not]; exact not_or.1 h1]
    refine split_ (fun h => by cases h) fun _ => split_ (fun h2 => ?_) fun h2 => ?_
    · rw [List.drop_eq_nil_of_le (by omega)]
      exact split_ (fun _ => rfl) fun h => absurd rfl h
    · obtain ⟨k, rfl⟩ : ∃ k : Nat, a = (k : Int) := ⟨a.toNat, by omega⟩
      obtain ⟨x, hx⟩ : ∃ x, s.data.toList[k]? = some x := ⟨_, List.getElem?_eq_getElem (by omega)⟩
      have hx0 : s[(k : Int).toNat]? = some x := by rw [ba_at, Int.toNat_natCast, hx]
      rw [Int.toNat_natCast, drop_at hx]
      refine ⟨by omega, x, hx0, ?_⟩
      by_cases h3 : (x.toNat : Int) = 34
      · rw [decide_eq_true h3]
        show show_Unquote_j2 (k : Int) s false (if x.toNat = 34 then _ else _)
        rw [if_pos (by omega)]
        refine split_ (fun h => by cases h) fun _ => inR_ (by omega) ?_
        refine loop_ (fun (st : Int × List UInt8) m => ∃ (n at_ : Nat) (out : List UInt8), m = n ∧ at_ ≤ s.size ∧ s.size - at_ < n ∧ out.length ≤ at_ ∧ st = ((at_ : Int), out) ∧ unqL n (s.data.toList.drop at_) out at_ = unqL (s.data.toList.length + 1) (s.data.toList.drop (k + 1)) [] (k + 1)) (s.data.toList.length + 1) ⟨s.data.toList.length + 1, k + 1, [], rfl, by omega, by omega, by simp, rfl, rfl⟩ ?_
        rintro _ n ⟨_, at_, out, rfl, hat, hn, hol, rfl, hr⟩
        show show_Unquote_l3 s _ (at_ : Int) out _
        obtain ⟨n, rfl⟩ : ∃ j, n = j + 1 := ⟨n - 1, by omega⟩
        rw [← hr]
        refine split_ (fun h4 => ?_) fun h4 => ?_
        · obtain ⟨c, hc⟩ : ∃ c, s.data.toList[at_]? = some c := ⟨_, List.getElem?_eq_getElem (by omega)⟩
          have hc0 : s[(at_ : Int).toNat]? = some c := by rw [ba_at, Int.toNat_natCast, hc]
          have hd := drop_at hc
          rw [hd] at hr
          rw [hd]
          rw [unqL_cons] at hr ⊢
          refine ⟨by omega, c, hc0, inR_ (by omega) (split_ (fun h5 => ?_) fun h5 => split_ (fun h6 => ?_) fun h6 => ?_)⟩
          · rw [if_pos (by omega)]
            rfl
          · rw [if_neg (by omega), if_pos (by omega)] at hr ⊢
            have he := escape_ok (s.extract (at_ + 1) s.size)
            rw [ext_list] at he
            refine ⟨⟨by omega, by omega⟩, escL (s.data.toList.drop (at_ + 1)), ?_, split_ (fun h7 => ?_) fun h7 => ?_⟩
            · rw [show ((at_ : Int) + 1).toNat = at_ + 1 from by omega]; exact he
            · rw [if_neg h7]
            · have h8 : (escL (s.data.toList.drop (at_ + 1))).2.2 = 0 := Decidable.of_not_not h7
              rw [if_pos h8] at hr ⊢
              have hen := escL_n _ h8
              rw [List.length_drop] at hen
              refine room_ (by rw [List.length_singleton]; omega) (by omega) (inR_ (by omega) ⟨n, by omega, n, at_ + 1 + (escL (s.data.toList.drop (at_ + 1))).2.1.toNat, out ++ [(escL (s.data.toList.drop (at_ + 1))).1], rfl, by omega, by omega, by rw [List.length_append, List.length_singleton]; omega, ?_, ?_⟩)
              · refine Prod.ext ?_ rfl
                show (at_ : Int) + 1 + (escL (s.data.toList.drop (at_ + 1))).2.1 = _
                omega
              · rw [List.drop_drop]
          · rw [if_neg (by omega), if_neg (by omega)]
            refine room_ (by rw [List.length_singleton]; omega) (by omega) ⟨n, by omega, n, at_ + 1, out ++ [c], rfl, by omega, by omega, by rw [List.length_append, List.length_singleton]; omega, ?_, rfl⟩
            rfl
        · rw [List.drop_eq_nil_of_le (by omega)]
          rfl
      · rw [decide_eq_false h3]
        show show_Unquote_j2 (k : Int) s true (if x.toNat = 34 then _ else _)
        rw [if_neg (by omega)]
        exact split_ (fun _ => rfl) fun h => absurd rfl h
/-- The document's unquoting. -/
def sec (n : Nat) : Option Nat := if 7 ≤ n ∧ n ≤ 13 then some (ltrs.getD (n - 7) 0).toNat else if n = 92 then some 92 else none
def fx (x : Nat) : Nat → Int
  | 0 => -1
  | n + 1 => if sec n = some x then (n : Int) else fx x n
def secB (c : UInt8) : Bool := decide ((if (mk c).length = 2 then (mk c)[1]?.map (·.toNat) else none) = sec c.toNat)
theorem sec_all : ((List.range 256).all fun n => secB (UInt8.ofNat n)) = true := by kernel_rfl
theorem sec_ok (c : UInt8) : (if (mk c).length = 2 then (mk c)[1]?.map (·.toNat) else none) = sec c.toNat := by
  have := all_byte (P := secB) sec_all c
  unfold secB at this
  exact of_decide_eq_true this
def oneL (x : UInt8) : Int := if x.toNat = 34 then 34 else fx x.toNat 256
def oneB (c : UInt8) : Bool := decide (oneL c = if c.toNat = 92 ∨ c.toNat = 34 then (c.toNat : Int) else if 0 ≤ idxB ltrs c then 7 + idxB ltrs c else -1)
theorem one_all : ((List.range 256).all fun n => oneB (UInt8.ofNat n)) = true := by kernel_rfl
theorem one_ok (c : UInt8) : oneL c = if c.toNat = 92 ∨ c.toNat = 34 then (c.toNat : Int) else if 0 ≤ idxB ltrs c then 7 + idxB ltrs c else -1 := by
  have := all_byte (P := oneB) one_all c
  unfold oneB at this
  exact of_decide_eq_true this
theorem fx_le (x n : Nat) : -1 ≤ fx x n ∧ fx x n ≤ n := by
  induction n with
  | zero => unfold fx; omega
  | succ n ih => unfold fx; split <;> omega
abbrev Res := List UInt8 × Int × Int
theorem refoct (s : ByteArray) (at_ : Nat) (out : List UInt8) (r : Res) (ag : (List UInt8 × Int) → Prop) (hs : s.size ≤ 100000) (hat : at_ + 1 < s.size) (hol : out.length ≤ 1000000)
    (hok : ∀ c : UInt8, octL 3 0 (s.data.toList.drop (at_ + 1)) = (c, 3, 0) → ag (out ++ [c], ((at_ + 4 : Nat) : Int)))
    (hno : (octL 3 0 (s.data.toList.drop (at_ + 1))).2.2 ≠ 0 → r = ([], 0, (octL 3 0 (s.data.toList.drop (at_ + 1))).2.2)) :
    LoopR (fun ag9 st => palinoderef04_Unquote_l9 (at_ : Int) s out ag ag9 st.1 st.2 r) ((0 : Int), (0 : Int)) := by
  have hsz : s.size = s.data.toList.length := rfl
  refine loop_ (fun (st : Int × Int) m => ∃ k v : Nat, k ≤ 3 ∧ m = 3 - k ∧ at_ + 1 + k ≤ s.size ∧ st = ((v : Int), (k : Int)) ∧ v + 1 ≤ 8 ^ k ∧ octL (3 - k) v (s.data.toList.drop (at_ + 1 + k)) = octL 3 0 (s.data.toList.drop (at_ + 1))) 3 ⟨0, 0, by omega, rfl, by omega, rfl, by decide, rfl⟩ ?_
  rintro _ m ⟨k, v, hk, rfl, hkl, rfl, hv, hr⟩
  show palinoderef04_Unquote_l9 (at_ : Int) s out ag _ (v : Int) (k : Int) r
  rw [← hr] at hok hno
  have hv5 : v ≤ 511 := by
    have h8 : (8 : Nat) ^ k ≤ 512 := by
      have hk3 : k = 0 ∨ k = 1 ∨ k = 2 ∨ k = 3 := by omega
      rcases hk3 with rfl | rfl | rfl | rfl <;> decide
    omega
  have hi : (((at_ : Int) + 1) + (k : Int)).toNat = at_ + 1 + k := by omega
  refine split_ (fun h => inR_ (by omega) (split_ (fun h2 => ?_) fun h2 => ?_)) fun h => ?_
  · obtain ⟨j, hj⟩ : ∃ j, 3 - k = j + 1 := ⟨2 - k, by omega⟩
    rw [hj, List.drop_eq_nil_of_le (by omega)] at hno
    exact hno (show (2 : Int) ≠ 0 by decide)
  · obtain ⟨x, hx⟩ : ∃ x, s.data.toList[at_ + 1 + k]? = some x := ⟨_, List.getElem?_eq_getElem (by omega)⟩
    have hx0 : s[(((at_ : Int) + 1) + (k : Int)).toNat]? = some x := by rw [ba_at, hi, hx]
    obtain ⟨j, hj⟩ : ∃ j, 3 - k = j + 1 := ⟨2 - k, by omega⟩
    have hd := drop_at hx
    have hbad : ¬ (48 ≤ x.toNat ∧ x.toNat ≤ 55) → palinoderef04_Unquote_j10 (v : Int) (at_ : Int) (k : Int) s (fun s' => ∃ m', m' < 3 - k ∧ ∃ k v : Nat, k ≤ 3 ∧ m' = 3 - k ∧ at_ + 1 + k ≤ s.size ∧ s' = ((v : Int), (k : Int)) ∧ v + 1 ≤ 8 ^ k ∧ octL (3 - k) v (s.data.toList.drop (at_ + 1 + k)) = octL 3 0 (s.data.toList.drop (at_ + 1))) true r := fun h4 => by
      refine split_ (fun _ => ?_) fun h => absurd rfl h
      rw [hj, hd, octL_cons, if_neg h4] at hno
      exact hno (by decide)
    refine inR_ (by omega) ⟨by omega, x, hx0, split_ (fun h3 => hbad (by omega)) fun h3 => inR_ (by omega) ⟨by omega, x, hx0, ?_⟩⟩
    by_cases h4 : (55 : Int) < x.toNat
    · rw [decide_eq_true h4]; exact hbad (by omega)
    · rw [decide_eq_false h4]
      have h5 : 48 ≤ x.toNat ∧ x.toNat ≤ 55 := by omega
      refine split_ (fun h => by cases h) fun _ => inR_ (by omega) (inR_ (by omega) ⟨by omega, x, hx0, inR_ (by omega) (inR_ (by omega) (inR_ (by omega) ⟨3 - (k + 1), by omega, k + 1, v * 8 + (x.toNat - 48), by omega, rfl, by omega, ?_, ?_, ?_⟩))⟩)
      · refine Prod.ext ?_ ?_ <;> simp only <;> omega
      · rw [Nat.pow_succ]; omega
      · rw [← hr, hj, hd, octL_cons, if_pos h5, show 3 - (k + 1) = j from by omega]
        rfl
  · have hk3 : k = 3 := by omega
    subst hk3
    rw [show octL (3 - 3) v (s.data.toList.drop (at_ + 1 + 3)) = if 255 < v then (0, 0, 10) else (UInt8.ofNat v, 3, 0) from rfl] at hok hno
    refine split_ (fun h => ?_) fun h => exU8 ⟨by omega, by omega⟩ fun c hc => ?_
    · rw [if_pos (by omega)] at hno
      exact hno (by decide)
    · have : c = UInt8.ofNat v := UInt8.toNat_inj.1 (by have := u8_of v (by omega); omega)
      rw [if_neg (by omega), ← this] at hok
      refine room_ (by rw [List.length_singleton]; omega) (by omega) (inR_ (by omega) (inR_ (by omega) ?_))
      have := hok c rfl
      rw [show ((at_ : Int) + 1 + 2 + 1) = ((at_ + 4 : Nat) : Int) from by omega]
      exact this
theorem refunquote_ok (s : ByteArray) (a : Int) (hs : s.size ≤ 100000) : palinoderef04_Unquote_R s a (unq s.data.toList a) := by
  have hsz : s.size = s.data.toList.length := rfl
  unfold unq
  by_cases h1 : a < 0 ∨ (s.data.toList.length : Int) < a
  · rw [if_pos h1]
    show palinoderef04_Unquote_j1 a s _ _
    rw [show ((decide (a < 0)) || (decide ((s.size : Int) < a))) = true from by rw [Bool.or_eq_true, decide_eq_true_eq, decide_eq_true_eq]; exact h1]
    exact split_ (fun _ => rfl) fun h => absurd rfl h
  · rw [if_neg h1]
    show palinoderef04_Unquote_j1 a s _ _
    rw [show ((decide (a < 0)) || (decide ((s.size : Int) < a))) = false from by rw [Bool.or_eq_false_iff, decide_eq_false_iff_not, decide_eq_false_iff_not]; exact not_or.1 h1]
    refine split_ (fun h => by cases h) fun _ => split_ (fun h2 => ?_) fun h2 => ?_
    · rw [List.drop_eq_nil_of_le (by omega)]
      exact split_ (fun _ => rfl) fun h => absurd rfl h
    · obtain ⟨k, rfl⟩ : ∃ k : Nat, a = (k : Int) := ⟨a.toNat, by omega⟩
      obtain ⟨x, hx⟩ : ∃ x, s.data.toList[k]? = some x := ⟨_, List.getElem?_eq_getElem (by omega)⟩
      have hx0 : s[(k : Int).toNat]? = some x := by rw [ba_at, Int.toNat_natCast, hx]
      rw [Int.toNat_natCast, drop_at hx]
      refine ⟨by omega, x, hx0, ?_⟩
      by_cases h3 : (x.toNat : Int) = 34
      · rw [decide_eq_true h3]
        show palinoderef04_Unquote_j2 (k : Int) s false (if x.toNat = 34 then _ else _)
        rw [if_pos (by omega)]
        refine split_ (fun h => by cases h) fun _ => inR_ (by omega) ?_
        refine loop_ (fun (st : List UInt8 × Int) m => ∃ (n at_ : Nat) (out : List UInt8), m = n ∧ at_ ≤ s.size ∧ s.size - at_ < n ∧ out.length ≤ at_ ∧ st = (out, (at_ : Int)) ∧ unqL n (s.data.toList.drop at_) out at_ = unqL (s.data.toList.length + 1) (s.data.toList.drop (k + 1)) [] (k + 1)) (s.data.toList.length + 1) ⟨s.data.toList.length + 1, k + 1, [], rfl, by omega, by omega, by simp, rfl, rfl⟩ ?_
        rintro _ n ⟨_, at_, out, rfl, hat, hn, hol, rfl, hr⟩
        show palinoderef04_Unquote_l3 s _ out (at_ : Int) _
        obtain ⟨n, rfl⟩ : ∃ j, n = j + 1 := ⟨n - 1, by omega⟩
        generalize hW : unqL (s.data.toList.length + 1) (s.data.toList.drop (k + 1)) [] (k + 1) = W at hr ⊢
        refine split_ (fun h4 => ?_) fun h4 => ?_
        · obtain ⟨c, hc⟩ : ∃ c, s.data.toList[at_]? = some c := ⟨_, List.getElem?_eq_getElem (by omega)⟩
          have hc0 : s[(at_ : Int).toNat]? = some c := by rw [ba_at, Int.toNat_natCast, hc]
          rw [drop_at hc, unqL_cons] at hr
          refine ⟨by omega, c, hc0, split_ (fun h5 => inR_ (by omega) ?_) fun h5 => ⟨by omega, c, hc0, split_ (fun h6 => ⟨by omega, c, hc0, ?_⟩) fun h6 => inR_ (by omega) (split_ (fun h7 => ?_) fun h7 => ?_)⟩⟩
          · rw [if_pos (by omega)] at hr
            rw [← hr]; rfl
          · rw [if_neg (by omega), if_neg (by omega)] at hr
            refine room_ (by rw [List.length_singleton]; omega) (by omega) (inR_ (by omega) ⟨n, by omega, n, at_ + 1, out ++ [c], rfl, by omega, by omega, by rw [List.length_append, List.length_singleton]; omega, rfl, hr⟩)
          · rw [if_neg (by omega), if_pos (by omega), List.drop_eq_nil_of_le (by omega)] at hr
            rw [← hr]; rfl
          · rw [if_neg (by omega), if_pos (by omega)] at hr
            obtain ⟨x, hx⟩ : ∃ x, s.data.toList[at_ + 1]? = some x := ⟨_, List.getElem?_eq_getElem (by omega)⟩
            have hx0 : s[((at_ : Int) + 1).toNat]? = some x := by rw [ba_at, show ((at_ : Int) + 1).toNat = at_ + 1 from by omega, hx]
            have hone := one_ok x
            rw [drop_at hx] at hr
            refine loop_ (fun (st : Int × Int) m => ∃ j : Nat, j ≤ 256 ∧ m = 256 - j ∧ st = (fx x.toNat j, (j : Int))) 256 ⟨0, by omega, rfl, rfl⟩ ?_
            rintro _ m ⟨j, hj, rfl, rfl⟩
            show palinoderef04_Unquote_l5 (at_ : Int) s out _ _ (fx x.toNat j) (j : Int) W
            have hfx := fx_le x.toNat j
            refine split_ (fun h8 => exU8 ⟨by omega, by omega⟩ fun c hc => ⟨_, refmark_ok c, ?_⟩) fun h8 => ⟨by omega, x, hx0, ?_⟩
            · have hsec := sec_ok c
              have hcj : c.toNat = j := by omega
              rw [hcj] at hsec
              have hms : (mkA c).size = (mk c).length := rfl
              have hyes : sec j = some x.toNat → palinoderef04_Unquote_j7 (j : Int) (fun s' => ∃ m', m' < 256 - j ∧ ∃ j : Nat, j ≤ 256 ∧ m' = 256 - j ∧ s' = (fx x.toNat j, (j : Int))) (fx x.toNat j) true W := fun h => by
                refine split_ (fun _ => inR_ (by omega) ⟨256 - (j + 1), by omega, j + 1, by omega, rfl, ?_⟩) fun h => absurd rfl h
                show ((j : Int), (j : Int) + 1) = (if sec j = some x.toNat then (j : Int) else fx x.toNat j, _)
                rw [if_pos h]; rfl
              have hnot : sec j ≠ some x.toNat → palinoderef04_Unquote_j7 (j : Int) (fun s' => ∃ m', m' < 256 - j ∧ ∃ j : Nat, j ≤ 256 ∧ m' = 256 - j ∧ s' = (fx x.toNat j, (j : Int))) (fx x.toNat j) false W := fun h => by
                refine split_ (fun h => by cases h) fun _ => inR_ (by omega) ⟨256 - (j + 1), by omega, j + 1, by omega, rfl, ?_⟩
                show (fx x.toNat j, (j : Int) + 1) = (if sec j = some x.toNat then (j : Int) else fx x.toNat j, _)
                rw [if_neg h]; rfl
              refine split_ (fun h9 => ?_) fun h9 => ?_
              · obtain ⟨y, hy⟩ : ∃ y, (mk c)[1]? = some y := ⟨_, List.getElem?_eq_getElem (by omega)⟩
                have hy0 : (mkA c)[(1 : Int).toNat]? = some y := by rw [ba_at]; exact hy
                rw [if_pos (by omega), hy] at hsec
                refine ⟨by omega, y, hy0, by omega, x, hx0, ?_⟩
                by_cases h10 : (y.toNat : Int) = (x.toNat : Int)
                · rw [decide_eq_true h10]
                  refine hyes ?_
                  rw [← hsec]
                  show some y.toNat = some x.toNat
                  congr 1; omega
                · rw [decide_eq_false h10]
                  refine hnot fun e => h10 ?_
                  rw [← hsec] at e
                  have : y.toNat = x.toNat := Option.some.inj e
                  omega
              · rw [if_neg (by omega)] at hsec
                exact hnot (by rw [← hsec]; intro e; cases e)
            · have hj6 : j = 256 := by omega
              subst hj6
              have hj8 : palinoderef04_Unquote_j8 out (fun s' => ∃ m', m' < n + 1 ∧ ∃ (n at_ : Nat) (out : List UInt8), m' = n ∧ at_ ≤ s.size ∧ s.size - at_ < n ∧ out.length ≤ at_ ∧ s' = (out, (at_ : Int)) ∧ unqL n (s.data.toList.drop at_) out at_ = W) (at_ : Int) s (oneL x) W := by
                rw [hone]
                rw [escL_cons] at hr
                by_cases h9 : x.toNat = 92 ∨ x.toNat = 34
                · rw [if_pos h9] at hr ⊢
                  refine split_ (fun _ => exU8 ⟨by omega, by omega⟩ fun c1 hc1 => ?_) fun h => absurd h (by omega)
                  have : c1 = x := UInt8.toNat_inj.1 (by omega)
                  subst this
                  refine room_ (by rw [List.length_singleton]; omega) (by omega) (inR_ (by omega) ⟨n, by omega, n, at_ + 2, out ++ [c1], rfl, by omega, by omega, by rw [List.length_append, List.length_singleton]; omega, ?_, hr⟩)
                  rw [show (at_ : Int) + 1 + 1 = ((at_ + 2 : Nat) : Int) from by omega]
                · rw [if_neg h9] at hr ⊢
                  by_cases h10 : 0 ≤ idxB ltrs x
                  · rw [if_pos h10] at hr ⊢
                    have := ix_le x
                    refine split_ (fun _ => exU8 ⟨by omega, by omega⟩ fun c1 hc1 => ?_) fun h => absurd h (by omega)
                    have : c1 = UInt8.ofNat (7 + (idxB ltrs x).toNat) := UInt8.toNat_inj.1 (by have := u8_of (7 + (idxB ltrs x).toNat) (by omega); omega)
                    subst this
                    refine room_ (by rw [List.length_singleton]; omega) (by omega) (inR_ (by omega) ⟨n, by omega, n, at_ + 2, _, rfl, by omega, by omega, ?_, ?_, hr⟩)
                    · rw [List.length_append, List.length_singleton]; omega
                    · rw [show (at_ : Int) + 1 + 1 = ((at_ + 2 : Nat) : Int) from by omega]
                  · rw [if_neg h10] at hr ⊢
                    rw [← drop_at hx] at hr
                    refine split_ (fun h => absurd h (by decide)) fun _ => ?_
                    refine refoct s at_ out W _ hs (by omega) (by omega) (fun c1 hc1 => ?_) fun h => ?_
                    · rw [hc1] at hr
                      have hn3 := octL_n 3 0 (s.data.toList.drop (at_ + 1)) (by rw [hc1])
                      rw [List.length_drop] at hn3
                      refine ⟨n, by omega, n, at_ + 4, out ++ [c1], rfl, by omega, by omega, by rw [List.length_append, List.length_singleton]; omega, rfl, ?_⟩
                      rw [← hr, if_pos rfl, List.drop_drop]; rfl
                    · rw [if_neg h] at hr
                      rw [← hr]
              refine split_ (fun h9 => ?_) fun h9 => ?_
              · rw [show oneL x = 34 from by unfold oneL; rw [if_pos (by omega)]] at hj8
                exact hj8
              · rw [show oneL x = fx x.toNat 256 from by unfold oneL; rw [if_neg (by omega)]] at hj8
                exact hj8
        · rw [List.drop_eq_nil_of_le (by omega)] at hr
          rw [← hr]; rfl
      · rw [decide_eq_false h3]
        show palinoderef04_Unquote_j2 (k : Int) s true (if x.toNat = 34 then _ else _)
        rw [if_neg (by omega)]
        exact split_ (fun _ => rfl) fun h => absurd rfl h
theorem unqL_len (n : Nat) (l out : List UInt8) (a : Nat) : (unqL n l out a).1.length ≤ out.length + n := by
  induction n generalizing l out a with
  | zero => unfold unqL; simp
  | succ n ih =>
    cases l with
    | nil => unfold unqL; simp
    | cons c t =>
      rw [unqL_cons]
      split
      · show out.length ≤ _; omega
      · split
        · split
          · have := ih (t.drop (escL t).2.1.toNat) (out ++ [(escL t).1]) (a + 1 + (escL t).2.1.toNat)
            rw [List.length_append, List.length_singleton] at this
            omega
          · show 0 ≤ _; omega
        · have := ih t (out ++ [c]) (a + 1)
          rw [List.length_append, List.length_singleton] at this
          omega
theorem unq_len (l : List UInt8) (a : Int) : (unq l a).1.length ≤ l.length + 1 := by
  unfold unq
  split
  · show 0 ≤ _; omega
  · split
    · show 0 ≤ _; omega
    · split
      · have := unqL_len (l.length + 1) (by assumption) [] (a.toNat + 1)
        simpa using this
      · show 0 ≤ _; omega
end Go.Proofs.Ytefpkpiadnpkeaa
