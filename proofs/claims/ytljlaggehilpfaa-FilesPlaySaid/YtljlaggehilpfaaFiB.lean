/- What was added is gone, when it is cut. -/
import Derived.Test.YtljlaggehilpfaaFiQ
import Derived.Test.YtljlaggehilpfaaGKL3
namespace Go.Proofs.Ytljlaggehilpfaa
theorem fisame_ok (a b : List UInt8) (hl : a.length ≤ 1000000) : palinoderef01_Same_R a b (decide (a = b)) := by
  refine split_ (fun h => ?_) fun h => ?_
  · exact decide_eq_false fun e : a = b => h (by rw [e])
  · have hlen : a.length = b.length := by omega
    refine loop_ (fun st m => ∃ k : Nat, k ≤ a.length ∧ m = a.length - k ∧ st = (k : Int) ∧ a.take k = b.take k) _ ⟨0, by omega, rfl, rfl, rfl⟩ ?_
    rintro st m ⟨k, hk, rfl, rfl, h2⟩
    refine split_ (fun h3 => ?_) fun h3 => ?_
    · refine at_ (by omega) (by omega) fun x hx => at_ (by omega) (by omega) fun y hy => ?_
      rw [Int.toNat_natCast] at hx hy
      refine split_ (fun h4 => ?_) fun h4 => ?_
      · refine decide_eq_false fun e : a = b => h4 ?_
        rw [e, hy] at hx
        injection hx with hx
        rw [hx]
      · have hxy : x = y := UInt8.toNat_inj.1 (by omega)
        refine inR_ (by omega) ⟨a.length - (k + 1), by omega, k + 1, by omega, rfl, by simp, ?_⟩
        rw [List.take_add_one, List.take_add_one, h2, hx, hy, hxy]
    · rw [List.take_of_length_le (by omega), List.take_of_length_le (by omega)] at h2
      exact decide_eq_true h2
theorem fisames_ok (l : List FL) (hl : l.length ≤ 1000000) (hb : ∀ f ∈ l, f.2.length ≤ 1000000) : palinoderef03_Same_R l l true := by
  refine split_ (fun h => absurd rfl h) fun _ => ?_
  refine loop_ (fun st m => ∃ k : Nat, k ≤ l.length ∧ m = l.length - k ∧ st = (k : Int)) _ ⟨0, by omega, rfl, rfl⟩ ?_
  rintro st m ⟨k, hk, rfl, rfl⟩
  refine split_ (fun h3 => ?_) fun h3 => rfl
  have hx := List.getElem?_eq_getElem (l := l) (i := k) (by omega)
  generalize l[k] = x at hx
  have hxb := hb x (List.mem_of_getElem? hx)
  refine ⟨by omega, x, hx, by omega, x, hx, split_ (fun h => absurd (beq_self_eq_true _) h) fun _ => ⟨by omega, x, hx, by omega, x, hx, _, fisame_ok x.2 x.2 hxb, split_ (fun h => absurd (decide_eq_true rfl) h) fun _ => ?_⟩⟩
  exact inR_ (by omega) ⟨l.length - (k + 1), by omega, k + 1, by omega, rfl, by simp⟩
theorem ficopy_ok (l : List UInt8) (hl : l.length ≤ 1000000) : palinoderef01_Copy_R l l := room_ (by simp; omega) (by omega) (List.nil_append l).symm
theorem fiall_ok (front : List UInt8) (ps : List (List UInt8)) (hf : front.length ≤ 1000000) (hp : ps.length ≤ 1000) (hp2 : ∀ p ∈ ps, p.length ≤ 100000) : palinodelaw03_all_R front ps (front ++ ps.flatten) := by
  refine ⟨front, ficopy_ok front hf, ?_⟩
  have hfl : ∀ k, (ps.take k).flatten.length ≤ k * 100000 := by
    intro k
    induction k with
    | zero => simp
    | succ k ih =>
      rw [List.take_add_one, List.flatten_append, List.length_append]
      cases h : ps[k]? with
      | none => exact Nat.le_trans (show _ + 0 ≤ k * 100000 from ih) (Nat.mul_le_mul_right 100000 (Nat.le_succ k))
      | some p =>
        have h1 := hp2 p (List.mem_of_getElem? h)
        have e : (Option.toList (some p)).flatten.length = p.length := by simp
        rw [e, Nat.succ_mul]
        exact Nat.add_le_add ih h1
  refine loop_ (fun (st : List UInt8 × Int) m => ∃ k : Nat, k ≤ ps.length ∧ m = ps.length - k ∧ st = (front ++ (ps.take k).flatten, (k : Int))) ps.length ⟨0, by omega, rfl, by simp⟩ ?_
  rintro _ m ⟨k, hk, rfl, rfl⟩
  show palinodelaw03_all_l1 ps _ (front ++ (ps.take k).flatten) (k : Int) _
  have hk2 := hfl k
  refine split_ (fun h => ?_) fun h => ?_
  · refine at_ (by omega) (by omega) fun p hp' => ?_
    rw [Int.toNat_natCast] at hp'
    have hpl := hp2 p (List.mem_of_getElem? hp')
    refine room_ (by simp only [List.length_append] at *; omega) (by omega) (inR_ (by omega) ⟨ps.length - (k + 1), by omega, k + 1, by omega, rfl, ?_⟩)
    rw [List.take_add_one, hp']; simp
  · rw [List.take_of_length_le (by omega)]
abbrev AC := Int × Int × ByteArray × (List (List UInt8))
def fileBad (f : FL) : Bool := decide (100 < f.2.length) || decide (70 < f.1.size)
def actBad (a : AC) : Bool := decide (5 < a.2.2.2.length) || decide (70 < a.2.2.1.size) || a.2.2.2.any (fun p => decide (100 < p.length))
def greatB (x1 : List FL) (x2 : List AC) : Bool := (x1.take 20).any fileBad || ((x2.take 40).any actBad || (decide (20 < x1.length) || decide (40 < x2.length)))
theorem any_take_no {α : Type} {l : List α} {p : α → Bool} {n k : Nat} (hk : k = min l.length n) (h : ∀ j a, j < k → l[j]? = some a → p a = false) : (l.take n).any p = false := by
  rw [List.any_eq_false]
  intro x hx
  obtain ⟨j, hj⟩ := List.mem_iff_getElem?.1 hx
  rw [List.getElem?_take] at hj
  split at hj
  · have := (List.getElem?_eq_some_iff.1 hj).1
    rw [h j x (by omega) hj]; simp
  · cases hj
theorem any_take_yes {α : Type} {l : List α} {p : α → Bool} {n k : Nat} {a : α} (hk : k < n) (ha : l[k]? = some a) (h : p a = true) : (l.take n).any p = true :=
  List.any_eq_true.2 ⟨a, List.mem_of_getElem? (by rw [List.getElem?_take, if_pos hk]; exact ha), h⟩
theorem great_j3 (x1 : List FL) (x2 : List AC) : palinodelaw03_great_j3 x1 x2 (decide (20 < x1.length) || decide (40 < x2.length)) := by
  refine split_ (fun h => ?_) fun h => ?_
  · have : 20 < x1.length := by omega
    simp [this]
  · have : ¬ 20 < x1.length := by omega
    simp [this]; omega
theorem great_j1 (x1 : List FL) (x2 : List AC) : palinodelaw03_great_j1 x2 x1 ((x2.take 40).any actBad || (decide (20 < x1.length) || decide (40 < x2.length))) := by
  refine loop_ (fun st m => ∃ k : Nat, k ≤ x2.length ∧ k ≤ 40 ∧ m = 40 - k ∧ st = (k : Int) ∧ ∀ j a, j < k → x2[j]? = some a → actBad a = false) 40 ⟨0, by omega, by omega, rfl, rfl, fun j a hj => by omega⟩ ?_
  rintro _ m ⟨k, hk, hk4, rfl, rfl, hall⟩
  have fin : k = min x2.length 40 → palinodelaw03_great_j3 x1 x2 ((x2.take 40).any actBad || (decide (20 < x1.length) || decide (40 < x2.length))) := fun e => by
    rw [any_take_no e hall, Bool.false_or]; exact great_j3 x1 x2
  refine split_ (fun h => split_ (fun h2 => ?_) fun h2 => fin (by omega)) fun h => fin (by omega)
  have hx := List.getElem?_eq_getElem (l := x2) (i := k) (by omega)
  generalize x2[k] = a at hx
  have yes : actBad a = true → true = ((x2.take 40).any actBad || (decide (20 < x1.length) || decide (40 < x2.length))) := fun hb => by rw [any_take_yes (by omega) hx hb]; rfl
  refine ⟨by omega, a, hx, split_ (fun h3 => (yes (by have : 5 < a.2.2.2.length := by omega
                                                      simp [actBad, this])).symm) fun h3 => ⟨by omega, a, hx, split_ (fun h4 => (yes (by have : 70 < a.2.2.1.size := by omega
                                                                                                                                         simp [actBad, this])).symm) fun h4 => ?_⟩⟩
  refine loop_ (fun st m => ∃ i : Nat, i ≤ a.2.2.2.length ∧ m = a.2.2.2.length - i ∧ st = (i : Int) ∧ ∀ j p, j < i → a.2.2.2[j]? = some p → p.length ≤ 100) a.2.2.2.length ⟨0, by omega, rfl, rfl, fun j p hj => by omega⟩ ?_
  rintro _ m ⟨i, hi, rfl, rfl, hp⟩
  refine ⟨by omega, a, hx, split_ (fun h5 => ⟨by omega, a, hx, at_ (by omega) (by omega) fun p hpp => ?_⟩) fun h5 => inR_ (by omega) ⟨40 - (k + 1), by omega, k + 1, by omega, by omega, rfl, rfl, fun j b hj hb => ?_⟩⟩
  · rw [Int.toNat_natCast] at hpp
    refine split_ (fun h6 => (yes ?_).symm) fun h6 => inR_ (by omega) ⟨a.2.2.2.length - (i + 1), by omega, i + 1, by omega, rfl, rfl, fun j q hj hq => ?_⟩
    · have : a.2.2.2.any (fun p => decide (100 < p.length)) = true := List.any_eq_true.2 ⟨p, List.mem_of_getElem? hpp, by simp; omega⟩
      simp [actBad, this]
    · rcases Nat.lt_or_ge j i with h7 | h7
      · exact hp j q h7 hq
      · obtain rfl : j = i := by omega
        rw [hpp] at hq
        obtain rfl := Option.some.inj hq
        omega
  · rcases Nat.lt_or_ge j k with h7 | h7
    · exact hall j b h7 hb
    · obtain rfl : j = k := by omega
      rw [hx] at hb
      obtain rfl := Option.some.inj hb
      have e1 : ¬ 5 < a.2.2.2.length := by omega
      have e2 : ¬ 70 < a.2.2.1.size := by omega
      have e3 : a.2.2.2.any (fun p => decide (100 < p.length)) = false := by
        rw [List.any_eq_false]
        intro q hq
        obtain ⟨j, hj⟩ := List.mem_iff_getElem?.1 hq
        have := hp j q (by have := (List.getElem?_eq_some_iff.1 hj).1; omega) hj
        simp; omega
      simp [actBad, e1, e2, e3]
theorem great_ok (x1 : List FL) (x2 : List AC) : palinodelaw03_great_R x1 x2 (greatB x1 x2) := by
  refine loop_ (fun st m => ∃ k : Nat, k ≤ x1.length ∧ k ≤ 20 ∧ m = 20 - k ∧ st = (k : Int) ∧ ∀ j a, j < k → x1[j]? = some a → fileBad a = false) 20 ⟨0, by omega, by omega, rfl, rfl, fun j a hj => by omega⟩ ?_
  rintro _ m ⟨k, hk, hk4, rfl, rfl, hall⟩
  have fin : k = min x1.length 20 → palinodelaw03_great_j1 x2 x1 (greatB x1 x2) := fun e => by
    unfold greatB
    rw [any_take_no e hall, Bool.false_or]; exact great_j1 x1 x2
  refine split_ (fun h => split_ (fun h2 => ?_) fun h2 => fin (by omega)) fun h => fin (by omega)
  have hx := List.getElem?_eq_getElem (l := x1) (i := k) (by omega)
  generalize x1[k] = a at hx
  have yes : fileBad a = true → greatB x1 x2 = true := fun hb => by unfold greatB; rw [any_take_yes (by omega) hx hb]; rfl
  refine ⟨by omega, a, hx, split_ (fun h3 => yes (by have : 100 < a.2.length := by omega
                                                     simp [fileBad, this])) fun h3 => ⟨by omega, a, hx, split_ (fun h4 => yes (by have : 70 < a.1.size := by omega
                                                                                                                                  simp [fileBad, this])) fun h4 => ?_⟩⟩
  refine inR_ (by omega) ⟨20 - (k + 1), by omega, k + 1, by omega, by omega, rfl, rfl, fun j b hj hb => ?_⟩
  rcases Nat.lt_or_ge j k with h7 | h7
  · exact hall j b h7 hb
  · obtain rfl : j = k := by omega
    rw [hx] at hb
    obtain rfl := Option.some.inj hb
    have e1 : ¬ 100 < a.2.length := by omega
    have e2 : ¬ 70 < a.1.size := by omega
    simp [fileBad, e1, e2]
theorem great_no {x1 : List FL} {x2 : List AC} (h : greatB x1 x2 = false) : x1.length ≤ 20 ∧ x2.length ≤ 40 ∧ (∀ f ∈ x1, f.2.length ≤ 100 ∧ f.1.size ≤ 70) ∧ (∀ a ∈ x2, a.2.2.2.length ≤ 5 ∧ a.2.2.1.size ≤ 70 ∧ ∀ p ∈ a.2.2.2, p.length ≤ 100) := by
  unfold greatB at h
  simp only [Bool.or_eq_false_iff, decide_eq_false_iff_not] at h
  obtain ⟨h1, h2, h3, h4⟩ := h
  rw [List.take_of_length_le (by omega)] at h1 h2
  rw [List.any_eq_false] at h1 h2
  refine ⟨by omega, by omega, fun f hf => ?_, fun a ha => ?_⟩
  · have := h1 f hf
    simp [fileBad] at this
    exact this
  · have := h2 a ha
    simp [actBad] at this
    exact ⟨this.1.1, this.1.2, this.2⟩
theorem pick_ok (n : Int) (many : Nat) (h1 : 1 ≤ many) (h2 : many ≤ 1000) : ∃ k : Nat, k < many ∧ palinoderef01_Pick_R n (many : Int) (k : Int) := by
  have b1 := Int.tmod_lt_of_pos n (show (0 : Int) < many by omega)
  have b2 : -(many : Int) < n.tmod (many : Int) := by
    have := Int.lt_tmod_of_pos n (show (0 : Int) < many by omega)
    exact this
  by_cases hn : n.tmod (many : Int) < 0
  · refine ⟨(n.tmod (many : Int) + many).toNat, by omega, split_ (fun h => by omega) fun _ => ⟨by omega, split_ (fun _ => inR_ (by omega) (by omega)) fun h => absurd hn h⟩⟩
  · exact ⟨(n.tmod (many : Int)).toNat, by omega, split_ (fun h => by omega) fun _ => ⟨by omega, split_ (fun h => absurd h hn) fun _ => by omega⟩⟩
theorem look_mem : ∀ {l : List FL} {f : FL}, f ∈ l → ∃ i, findL l f.1 = some i
  | [], _, h => by simp at h
  | g :: l, f, h => by
    unfold findL
    split
    · exact ⟨0, rfl⟩
    · rename_i hg
      rcases List.mem_cons.1 h with rfl | h
      · exact absurd (beq_self_eq_true _) hg
      · obtain ⟨i, hi⟩ := look_mem h
        exact ⟨i + 1, by rw [hi]; rfl⟩
theorem find_set : ∀ {l : List FL} {s : ByteArray} {i : Nat} (b : List UInt8), findL l s = some i → findL (l.set i (s, b)) s = some i ∧ lookL (l.set i (s, b)) s = some b
  | [], _, _, _, h => by cases h
  | f :: l, s, i, b, h => by
    unfold findL at h
    split at h
    · injection h with h; subst h
      rw [List.set_cons_zero]
      unfold findL lookL
      rw [if_pos (beq_self_eq_true _), if_pos (beq_self_eq_true _)]
      exact ⟨rfl, rfl⟩
    · rename_i hf
      cases h2 : findL l s with
      | none => rw [h2] at h; cases h
      | some j =>
        rw [h2] at h
        injection h with h; subst h
        rw [List.set_cons_succ]
        unfold findL lookL
        rw [if_neg hf, if_neg hf, (find_set b h2).1, (find_set b h2).2]
        exact ⟨rfl, rfl⟩
theorem back_law (fs : List FL) (at_ : Int) (ps : List (List UInt8)) : palinodelaw03_FilesBack_R fs at_ ps true := by
  refine ⟨_, great_ok fs [(0, 0, (⟨#[]⟩ : ByteArray), ps)], split_ (fun h => ⟨true, fiawake, rfl⟩) fun h => ?_⟩
  simp only [Bool.or_eq_true, decide_eq_true_eq, not_or] at h
  obtain ⟨hg, hlen⟩ := h
  obtain ⟨g1, _, g3, g4⟩ := great_no (by simpa using hg)
  obtain ⟨p1, _, p3⟩ := g4 _ (List.mem_singleton.2 rfl)
  simp only at p1 p3
  have hnew := new_ok fs fun f hf => by have := (g3 f hf).2; omega
  refine ⟨_, hnew, ⟨fun hno => ?_, fun T hT => ?_⟩⟩
  · exact split_ (fun _ => ⟨true, fiawake, rfl⟩) fun _ => ⟨true, fiawake, rfl⟩
  have hT' : newGo fs [] = ((newL fs).1, some T) ∧ ¬ 16 < fs.length := by
    unfold newL at hT ⊢
    split at hT
    · cases hT
    · rename_i h16
      rw [if_neg h16]
      exact ⟨by rw [← hT], h16⟩
  obtain ⟨hGood, he, hTe⟩ := good_go fs [] T _ ⟨by simp, by simp⟩ hT'.1
  rw [List.nil_append] at hTe
  subst hTe
  rw [he]
  refine split_ (fun h => by simp at h) fun _ => ?_
  obtain ⟨k, hk, hpick⟩ := pick_ok at_ T.length (by omega) (by omega)
  have hf := List.getElem?_eq_getElem hk
  generalize T[k] = f at hf
  have hmem := List.mem_of_getElem? hf
  obtain ⟨i, hi⟩ := look_mem hmem
  obtain ⟨B, hB1, hB2⟩ := find_some hi
  have hfn := (hGood.2 f hmem).1
  have hfs : f.1.size ≤ 1000000 := by have := (g3 f hmem).2; omega
  have hBl : B.length ≤ 100 := (g3 _ (List.mem_of_getElem? hB1)).1
  have hBl' : B.length ≤ 65536 := by omega
  have hfl : ps.flatten.length ≤ 500 := by
    clear hpick
    have : ∀ q : List (List UInt8), (∀ p ∈ q, p.length ≤ 100) → q.flatten.length ≤ q.length * 100 := by
      intro q
      induction q with
      | nil => simp
      | cons p q ih =>
        intro h
        rw [List.flatten_cons, List.length_append, List.length_cons, Nat.succ_mul]
        have h1 := h p (by simp)
        have h2 := ih fun p hp => h p (by simp [hp])
        omega
    have := this ps p3
    omega
  have hp1000 : ∀ p ∈ ps, p.length ≤ 100000 := fun p hp => by have := p3 p hp; omega
  have hlen1 : files_Table_Len_R T f.1 (B.length : Int) := by
    have := len_ok T f.1 hGood.n
    rw [hB2] at this; exact this
  have hadd := add_ok T f.1 ps hGood.n hfs hGood.b (by omega) hp1000
  have hput : putL T f.1 ((lookL T f.1).getD [] ++ ps.flatten) = (0, T.set i (f.1, B ++ ps.flatten)) := by
    unfold putL
    rw [if_pos hfn, hB2, hi, if_neg (by simp only [Option.getD_some, List.length_append]; omega)]
    rfl
  rw [hput] at hadd
  obtain ⟨s1, s2⟩ := find_set (B ++ ps.flatten) hi
  have hGood2 : Good (T.set i (f.1, B ++ ps.flatten)) := by
    have := good_put f.1 ((lookL T f.1).getD [] ++ ps.flatten) hGood
    rw [hput] at this; exact this
  have hall := fiall_ok [] ps (by simp) (by omega) hp1000
  rw [List.nil_append] at hall
  refine ⟨_, hpick, by omega, f, hf, _, hlen1, _, hadd, split_ (fun h => absurd rfl h) fun _ => ?_⟩
  have hlen2 : files_Table_Len_R (T.set i (f.1, B ++ ps.flatten)) f.1 ((B ++ ps.flatten).length : Int) := by
    have := len_ok (T.set i (f.1, B ++ ps.flatten)) f.1 hGood2.n
    rw [s2] at this; exact this
  refine ⟨_, hlen2, _, hall, inR_ (by omega) (split_ (fun h => absurd (by simp) h) fun _ => ⟨_, hall, inR_ (by omega) (inR_ (by omega) ?_)⟩)⟩
  have hc1 := cut_ok (T.set i (f.1, B ++ ps.flatten)) f.1 ((B.length : Int) + (ps.flatten.length : Int) + 1) hGood2.n hGood2.b
  have e1 : cutL (T.set i (f.1, B ++ ps.flatten)) f.1 ((B.length : Int) + (ps.flatten.length : Int) + 1) = (3, T.set i (f.1, B ++ ps.flatten)) := by
    unfold cutL
    rw [s1, s2]
    simp only
    rw [if_pos (.inr (by rw [List.length_append]; omega))]
  rw [e1] at hc1
  refine ⟨_, hc1, split_ (fun h => absurd rfl h) fun _ => ?_⟩
  have hc2 := cut_ok (T.set i (f.1, B ++ ps.flatten)) f.1 (B.length : Int) hGood2.n hGood2.b
  have e2 : cutL (T.set i (f.1, B ++ ps.flatten)) f.1 (B.length : Int) = (0, T) := by
    unfold cutL
    rw [s1, s2]
    simp only
    rw [if_neg (by rw [List.length_append]; omega), Int.toNat_natCast, List.take_left, List.set_set]
    congr 1
    exact List.set_getElem?_self_ hB1
  rw [e2] at hc2
  refine ⟨_, hc2, split_ (fun h => by simp at h) fun _ => ?_⟩
  exact ⟨_, all_ok T hGood.n hGood.b, _, fisames_ok T hGood.n hGood.b, split_ (fun _ => ⟨true, fiawake, rfl⟩) fun h => absurd rfl h⟩
end Go.Proofs.Ytljlaggehilpfaa
