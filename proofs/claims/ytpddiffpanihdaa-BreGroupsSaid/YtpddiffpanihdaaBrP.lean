/- A bracket expression, read from a list of bytes. -/
import Derived.Test.YtpddiffpanihdaaBrS
namespace Go.Proofs.Ytpddiffpanihdaa
abbrev z4 : SetT := Arr.rep 4 (0 : UInt64)
abbrev It := UInt8 × SetT × Bool × Nat
abbrev ItR := (UInt8 × SetT × Bool × Int) × Int
def nameB (t : List UInt8) (k : Nat) : ByteArray := ⟨(t.take k).toArray⟩
def namedT (two : UInt8) (t : List UInt8) : Except Int It :=
  if Lib.index t [two, 93] < 0 then .error 11
  else if two.toNat = 58 then
    (if (isS (nameB t (Lib.index t [two, 93]).toNat) 0).2 = true then .ok (0, pset (fun c => (isS (nameB t (Lib.index t [two, 93]).toNat) c).1) 256, true, (Lib.index t [two, 93]).toNat + 4) else .error 12)
  else if (Lib.index t [two, 93]).toNat = 1 then .ok (t.headD 0, z4, false, 5) else .error 12
def readC (x two : UInt8) (t : List UInt8) : Except Int It :=
  if x.toNat = 91 ∧ (two.toNat = 58 ∨ two.toNat = 46 ∨ two.toNat = 61) then namedT two (t.drop 1)
  else if x.toNat = 92 ∧ two.toNat = 110 then .ok (10, z4, false, 2)
  else .ok (x, z4, false, 1)
def readT : List UInt8 → Except Int It
  | [] => .error 11
  | x :: t => readC x (t.headD 0) t
def itR (at_ : Nat) : Except Int It → ItR
  | .error e => ((0, z4, false, 0), e)
  | .ok x => ((x.1, x.2.1, x.2.2.1, ((at_ + x.2.2.2 : Nat) : Int)), 0)
theorem drop_at {l : List UInt8} {k : Nat} {x : UInt8} (h : l[k]? = some x) : l.drop k = x :: l.drop (k + 1) := by
  obtain ⟨h1, h2⟩ := List.getElem?_eq_some_iff.1 h
  rw [List.drop_eq_getElem_cons h1, h2]
theorem bnamed_ok (b : List UInt8) (at_ : Nat) (two : UInt8) (hb : b.length ≤ 1000) (h : b[at_ + 1]? = some two) : brack_named_R b (at_ : Int) (itR at_ (namedT two (b.drop (at_ + 2)))) := by
  obtain ⟨hlt, _⟩ := List.getElem?_eq_some_iff.1 h
  have e2 : ((at_ : Int) + 2).toNat = at_ + 2 := by omega
  have hroom := Lib.index_room (b.drop (at_ + 2)) [two, 93]
  unfold namedT
  refine inR_ (by omega) ⟨by omega, two, by rw [show ((at_ : Int) + 1).toNat = at_ + 1 from by omega]; exact h, inR_ (by omega) ⟨⟨by omega, by omega⟩, Lib.index (b.drop (at_ + 2)) [two, 93], ?_, ?_⟩⟩
  · rw [e2]
    exact ⟨⟨by rw [List.length_drop]; omega, by simp, by simp⟩, rfl⟩
  · generalize hk : Lib.index (b.drop (at_ + 2)) [two, 93] = k at hroom
    refine split_ (fun h1 => ?_) fun h1 => ?_
    · rw [if_pos h1]; rfl
    · have hr := hroom (by omega)
      rw [List.length_drop] at hr
      simp only [List.length_cons, List.length_nil] at hr
      have hname : (b.take (((at_ : Int) + 2) + k).toNat).drop ((at_ : Int) + 2).toNat = (b.drop (at_ + 2)).take k.toNat := by
        rw [e2, List.drop_take, show (((at_ : Int) + 2) + k).toNat - (at_ + 2) = k.toNat from by omega]
      rw [hname, if_neg h1]
      refine inR_ (by omega) (inR_ (by omega) (inR_ (by omega) ⟨⟨by omega, by omega, by omega⟩, inR_ (by omega) (inR_ (by omega) (split_ (fun h2 => ?_) fun h2 => ?_))⟩))
      · rw [if_pos (by omega)]
        refine ⟨_, named_ok (nameB (b.drop (at_ + 2)) k.toNat), split_ (fun h3 => ?_) fun h3 => ?_⟩
        · rw [if_neg h3]; rfl
        · rw [if_pos (Decidable.of_not_not h3)]
          refine Prod.ext (Prod.ext rfl (Prod.ext rfl (Prod.ext rfl ?_))) rfl
          show ((at_ + (k.toNat + 4) : Nat) : Int) = (at_ : Int) + k + 4
          omega
      · rw [if_neg (by omega)]
        have hlen : (((b.drop (at_ + 2)).take k.toNat).length : Int) = k := by
          rw [List.length_take, List.length_drop]; omega
        rw [hlen]
        refine split_ (fun h3 => ?_) fun h3 => ?_
        · rw [if_neg (by omega)]; rfl
        · have hk1 : k = 1 := by omega
          subst hk1
          obtain ⟨x, hx⟩ : ∃ x, b[at_ + 2]? = some x := ⟨_, List.getElem?_eq_getElem (by omega)⟩
          rw [drop_at hx]
          refine ⟨by omega, x, rfl, ?_⟩
          rw [if_pos (show Int.toNat 1 = 1 from rfl)]
          refine Prod.ext (Prod.ext rfl (Prod.ext rfl (Prod.ext rfl ?_))) rfl
          show ((at_ + 5 : Nat) : Int) = (at_ : Int) + 1 + 4
          omega
theorem bread_ok (b : List UInt8) (at_ : Nat) (hb : b.length ≤ 1000) (hat : at_ ≤ 2000) : brack_read_R b (at_ : Int) (itR at_ (readT (b.drop at_))) := by
  refine split_ (fun h => ?_) fun h => ?_
  · rw [List.drop_eq_nil_of_le (by omega)]; rfl
  · obtain ⟨x, hx⟩ : ∃ x, b[at_]? = some x := ⟨_, List.getElem?_eq_getElem (by omega)⟩
    have hx0 : b[(at_ : Int).toNat]? = some x := by rw [Int.toNat_natCast]; exact hx
    rw [drop_at hx]
    have key : ∀ two : UInt8, (b.drop (at_ + 1)).headD 0 = two → (b[at_ + 1]? = some two ∨ two = 0) → brack_read_j1 (at_ : Int) b two (itR at_ (readC x two (b.drop (at_ + 1)))) := by
      intro two _ htwo
      refine ⟨by omega, x, hx0, ?_⟩
      unfold readC
      by_cases h1 : x.toNat = 91 ∧ (two.toNat = 58 ∨ two.toNat = 46 ∨ two.toNat = 61)
      · rw [if_pos h1, show ((decide ((x.toNat : Int) = 91)) && ((decide ((two.toNat : Int) = 58)) || ((decide ((two.toNat : Int) = 46)) || (decide ((two.toNat : Int) = 61))))) = true from by
          simp only [Bool.and_eq_true, Bool.or_eq_true, decide_eq_true_eq]; omega]
        have htw : b[at_ + 1]? = some two := by
          rcases htwo with h | h
          · exact h
          · rw [h] at h1; exact absurd h1.2 (by decide)
        rw [List.drop_drop]
        exact split_ (fun _ => ⟨_, bnamed_ok b at_ two hb htw, rfl⟩) fun h => absurd rfl h
      · rw [if_neg h1, show ((decide ((x.toNat : Int) = 91)) && ((decide ((two.toNat : Int) = 58)) || ((decide ((two.toNat : Int) = 46)) || (decide ((two.toNat : Int) = 61))))) = false from by
          rw [Bool.eq_false_iff]
          intro h
          simp only [Bool.and_eq_true, Bool.or_eq_true, decide_eq_true_eq] at h
          exact h1 (by omega)]
        refine split_ (fun h => by cases h) fun _ => ⟨by omega, x, hx0, ?_⟩
        by_cases h2 : x.toNat = 92 ∧ two.toNat = 110
        · rw [if_pos h2, show ((decide ((x.toNat : Int) = 92)) && (decide ((two.toNat : Int) = 110))) = true from by
            simp only [Bool.and_eq_true, decide_eq_true_eq]; omega]
          exact split_ (fun _ => inR_ (by omega) rfl) fun h => absurd rfl h
        · rw [if_neg h2, show ((decide ((x.toNat : Int) = 92)) && (decide ((two.toNat : Int) = 110))) = false from by
            rw [Bool.eq_false_iff]
            intro h
            simp only [Bool.and_eq_true, decide_eq_true_eq] at h
            exact h2 (by omega)]
          exact split_ (fun h => by cases h) fun _ => ⟨by omega, x, hx0, inR_ (by omega) rfl⟩
    refine inR_ (by omega) (split_ (fun h1 => ?_) fun h1 => ?_)
    · obtain ⟨two, htwo⟩ : ∃ x, b[at_ + 1]? = some x := ⟨_, List.getElem?_eq_getElem (by omega)⟩
      refine inR_ (by omega) ⟨by omega, two, by rw [show ((at_ : Int) + 1).toNat = at_ + 1 from by omega]; exact htwo, ?_⟩
      show brack_read_j1 _ _ _ (itR at_ (readC x ((b.drop (at_ + 1)).headD 0) _))
      have := drop_at htwo
      rw [show (b.drop (at_ + 1)).headD 0 = two from by rw [this]; rfl]
      exact key two (by rw [this]; rfl) (Or.inl htwo)
    · have : b.drop (at_ + 1) = [] := List.drop_eq_nil_of_le (by omega)
      show brack_read_j1 _ _ _ (itR at_ (readC x ((b.drop (at_ + 1)).headD 0) _))
      rw [show (b.drop (at_ + 1)).headD 0 = 0 from by rw [this]; rfl]
      exact key 0 (by rw [this]; rfl) (Or.inr rfl)
def isD : List UInt8 → Bool
  | [] => false
  | x :: r => decide (x.toNat = 45) && (match r with | [] => true | y :: _ => decide (y.toNat ≠ 93))
theorem dash_ok (b : List UInt8) (at_ : Nat) (hb : b.length ≤ 1000) (hat : at_ ≤ 3000) : brack_isDash_R b (at_ : Int) (isD (b.drop at_)) := by
  refine split_ (fun h => ?_) fun h => ?_
  · obtain ⟨x, hx⟩ : ∃ x, b[at_]? = some x := ⟨_, List.getElem?_eq_getElem (by omega)⟩
    have hx0 : b[(at_ : Int).toNat]? = some x := by rw [Int.toNat_natCast]; exact hx
    rw [drop_at hx]
    refine ⟨by omega, x, hx0, split_ (fun h1 => inR_ (by omega) (split_ (fun h2 => ?_) fun h2 => ?_)) fun h1 => ?_⟩
    · rw [List.drop_eq_nil_of_le (by omega)]
      show (decide (x.toNat = 45) && true) = true
      rw [decide_eq_true (by omega)]; rfl
    · obtain ⟨y, hy⟩ : ∃ x, b[at_ + 1]? = some x := ⟨_, List.getElem?_eq_getElem (by omega)⟩
      refine inR_ (by omega) ⟨by omega, y, by rw [show ((at_ : Int) + 1).toNat = at_ + 1 from by omega]; exact hy, ?_⟩
      rw [drop_at hy]
      show (decide (x.toNat = 45) && decide (y.toNat ≠ 93)) = !(decide ((y.toNat : Int) = 93))
      rw [decide_eq_true (show x.toNat = 45 by omega), Bool.true_and]
      by_cases h3 : y.toNat = 93
      · rw [decide_eq_false (by omega), decide_eq_true (by omega)]; rfl
      · rw [decide_eq_true (by omega), decide_eq_false (by omega)]; rfl
    · show (decide (x.toNat = 45) && _) = false
      rw [decide_eq_false (by omega)]; rfl
  · rw [List.drop_eq_nil_of_le (by omega)]; rfl
abbrev rngS (a c : UInt8) : SetT := pset (fun d => decide (a.toNat ≤ d ∧ d ≤ c.toNat)) 256
def partC (t : List UInt8) (x : It) : Except Int (SetT × Nat) :=
  if isD (t.drop x.2.2.2) = false then (if x.2.2.1 = true then .ok (x.2.1, x.2.2.2) else .ok (ofS [x.1], x.2.2.2))
  else if x.2.2.1 = true then .error 3
  else match readT (t.drop (x.2.2.2 + 1)) with
    | .error e => .error e
    | .ok y => if y.2.2.1 = true ∨ y.1.toNat < x.1.toNat then .error 3 else .ok (rngS x.1 y.1, x.2.2.2 + 1 + y.2.2.2)
def partT (t : List UInt8) : Except Int (SetT × Nat) := match readT t with
  | .error e => .error e
  | .ok x => partC t x
theorem namedT_len {two : UInt8} {t : List UInt8} {x : It} (h : namedT two t = .ok x) : 1 ≤ x.2.2.2 ∧ x.2.2.2 ≤ t.length + 2 := by
  have hroom := Lib.index_room t [two, 93]
  simp only [List.length_cons, List.length_nil] at hroom
  unfold namedT at h
  split at h
  · cases h
  · split at h
    · split at h
      · injection h with h; subst h; simp only; omega
      · cases h
    · split at h
      · injection h with h; subst h; simp only; omega
      · cases h
theorem readT_len {t : List UInt8} {x : It} (h : readT t = .ok x) : 1 ≤ x.2.2.2 ∧ x.2.2.2 ≤ t.length := by
  cases t with
  | nil => cases h
  | cons a t =>
    have h : readC a (t.headD 0) t = .ok x := h
    unfold readC at h
    rw [List.length_cons]
    split at h
    · rename_i h1
      have := namedT_len h
      cases t with
      | nil => exact absurd h1.2 (by decide)
      | cons y t => rw [List.length_drop, List.length_cons] at this; rw [List.length_cons]; omega
    · split at h
      · rename_i h1
        injection h with h; subst h
        cases t with
        | nil => exact absurd h1.2 (by decide)
        | cons y t => rw [List.length_cons]; simp only; omega
      · injection h with h; subst h; simp only; omega
theorem readT_err {t : List UInt8} {e : Int} (h : readT t = .error e) : e ≠ 0 := by
  cases t with
  | nil => injection h with h; subst h; decide
  | cons a t =>
    have h : readC a (t.headD 0) t = .error e := h
    unfold readC namedT at h
    split at h
    · split at h
      · injection h with h; subst h; decide
      · split at h
        · split at h
          · cases h
          · injection h with h; subst h; decide
        · split at h
          · cases h
          · injection h with h; subst h; decide
    · split at h <;> cases h
theorem partT_len {t : List UInt8} {s : SetT} {l : Nat} (h : partT t = .ok (s, l)) : 1 ≤ l ∧ l ≤ t.length := by
  unfold partT at h
  cases hr : readT t with
  | error e => rw [hr] at h; cases h
  | ok x =>
    rw [hr] at h
    have h : partC t x = .ok (s, l) := h
    have h1 := readT_len hr
    unfold partC at h
    split at h
    · split at h <;> (injection h with h; injection h with _ h; omega)
    · split at h
      · cases h
      · cases hr2 : readT (t.drop (x.2.2.2 + 1)) with
        | error e => rw [hr2] at h; cases h
        | ok y =>
          rw [hr2] at h
          simp only at h
          have h2 := readT_len hr2
          rw [List.length_drop] at h2
          split at h
          · cases h
          · injection h with h; injection h with _ h; omega
theorem partT_err {t : List UInt8} {e : Int} (h : partT t = .error e) : e ≠ 0 := by
  unfold partT at h
  cases hr : readT t with
  | error e => rw [hr] at h; injection h with h; subst h; exact readT_err hr
  | ok x =>
    rw [hr] at h
    have h : partC t x = .error e := h
    unfold partC at h
    split at h
    · split at h <;> cases h
    · split at h
      · injection h with h; subst h; decide
      · cases hr2 : readT (t.drop (x.2.2.2 + 1)) with
        | error e => rw [hr2] at h; injection h with h; subst h; exact readT_err hr2
        | ok y =>
          rw [hr2] at h
          simp only at h
          split at h
          · injection h with h; subst h; decide
          · cases h
def ptR (at_ : Nat) : Except Int (SetT × Nat) → SetT × Int × Int
  | .error e => (z4, 0, e)
  | .ok x => (x.1, ((at_ + x.2 : Nat) : Int), 0)
theorem part_ok (b : List UInt8) (at_ : Nat) (hb : b.length ≤ 1000) (hat : at_ ≤ b.length) : brack_part_R b (at_ : Int) (ptR at_ (partT (b.drop at_))) := by
  refine ⟨_, bread_ok b at_ hb (by omega), ?_⟩
  unfold partT
  cases hr : readT (b.drop at_) with
  | error e => exact split_ (fun _ => rfl) fun h => absurd (readT_err hr) h
  | ok x =>
    have hl := readT_len hr
    rw [List.length_drop] at hl
    refine split_ (fun h => absurd rfl h) fun _ => ⟨_, dash_ok b (at_ + x.2.2.2) hb (by omega), ?_⟩
    show _ ∧ _
    rw [← List.drop_drop]
    unfold partC
    refine split_ (fun h1 => ?_) fun h1 => ?_
    · have h1 : isD ((b.drop at_).drop x.2.2.2) = false := by simpa using h1
      simp only
      rw [if_pos h1]
      refine split_ (fun h2 => ?_) fun h2 => ⟨_, of_ok [x.1] (by simp), ?_⟩
      · have h2 : x.2.2.1 = true := h2
        rw [if_pos h2]; rfl
      · have h2 : ¬ x.2.2.1 = true := h2
        rw [if_neg h2]; rfl
    · have h1 : ¬ isD ((b.drop at_).drop x.2.2.2) = false := by simpa using h1
      simp only
      rw [if_neg h1]
      refine split_ (fun h2 => ?_) fun h2 => ?_
      · have h2 : x.2.2.1 = true := h2
        rw [if_pos h2]; rfl
      · have h2 : ¬ x.2.2.1 = true := h2
        rw [if_neg h2]
        have hrd := bread_ok b (at_ + (x.2.2.2 + 1)) hb (by omega)
        rw [← List.drop_drop] at hrd
        refine inR_ (by show _ ≤ ((at_ + x.2.2.2 : Nat) : Int) + 1 ∧ ((at_ + x.2.2.2 : Nat) : Int) + 1 ≤ _; omega) ⟨_, by
          show brack_read_R b (((at_ + x.2.2.2 : Nat) : Int) + 1) _
          rw [show ((at_ + x.2.2.2 : Nat) : Int) + 1 = ((at_ + (x.2.2.2 + 1) : Nat) : Int) from by omega]
          exact hrd, ?_⟩
        cases hr2 : readT ((b.drop at_).drop (x.2.2.2 + 1)) with
        | error e => exact split_ (fun _ => rfl) fun h => absurd (readT_err hr2) h
        | ok y =>
          refine split_ (fun h => absurd rfl h) fun _ => ?_
          show brack_part_j1 _ _ (y.2.2.1 || (decide ((y.1.toNat : Int) < (x.1.toNat : Int)))) (ptR at_ (if y.2.2.1 = true ∨ y.1.toNat < x.1.toNat then .error 3 else .ok (rngS x.1 y.1, x.2.2.2 + 1 + y.2.2.2)))
          by_cases h3 : y.2.2.1 = true ∨ y.1.toNat < x.1.toNat
          · rw [if_pos h3, show (y.2.2.1 || (decide ((y.1.toNat : Int) < (x.1.toNat : Int)))) = true from by
              rw [Bool.or_eq_true, decide_eq_true_eq]
              rcases h3 with h | h
              · exact Or.inl h
              · exact Or.inr (by omega)]
            exact split_ (fun _ => rfl) fun h => absurd rfl h
          · rw [if_neg h3, show (y.2.2.1 || (decide ((y.1.toNat : Int) < (x.1.toNat : Int)))) = false from by
              rw [Bool.eq_false_iff]
              intro h
              rw [Bool.or_eq_true, decide_eq_true_eq] at h
              rcases h with h | h
              · exact h3 (Or.inl h)
              · exact h3 (Or.inr (by omega))]
            refine split_ (fun h => by cases h) fun _ => ⟨_, range_ok x.1 y.1, ?_⟩
            refine Prod.ext rfl (Prod.ext ?_ rfl)
            show ((at_ + (x.2.2.2 + 1 + y.2.2.2) : Nat) : Int) = ((at_ + (x.2.2.2 + 1) + y.2.2.2 : Nat) : Int)
            omega
end Go.Proofs.Ytpddiffpanihdaa
