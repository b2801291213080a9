/- Bytes that are read one by one. -/
import Derived.Test.YtgplmognfmjllaaBrB
namespace Go.Proofs.Ytgplmognfmjllaa
/-- The first byte of what follows. -/
def nbU : List UInt8 → Nat
  | [] => 93
  | c :: _ => if c.toNat = 10 then 92 else c.toNat
theorem nbU_cons (c : UInt8) (U : List UInt8) : nbU (c :: U) = if c.toNat = 10 then 92 else c.toNat := rfl
def goodU : Bool → List UInt8 → Prop
  | _, [] => True
  | first, c :: U => (c.toNat = 93 → first = true) ∧ (c.toNat = 91 → nbU U ≠ 58 ∧ nbU U ≠ 46 ∧ nbU U ≠ 61) ∧ (c.toNat = 92 → nbU U ≠ 110) ∧ (nbU U = 45 → U = [45]) ∧ goodU false U
def uTxt (U rest : List UInt8) : List UInt8 := U.flatMap tx ++ 93 :: rest
theorem uTxt_cons (c : UInt8) (U rest : List UInt8) : uTxt (c :: U) rest = tx c ++ uTxt U rest := by unfold uTxt; rw [List.flatMap_cons, List.append_assoc]
theorem uTxt_head (U rest : List UInt8) : ∃ x t, uTxt U rest = x :: t ∧ x.toNat = nbU U := by
  cases U with
  | nil => exact ⟨93, rest, rfl, rfl⟩
  | cons c U =>
    rw [uTxt_cons, nbU_cons]
    unfold tx
    by_cases h : c.toNat = 10
    · rw [if_pos h, if_pos h]; exact ⟨92, _, rfl, rfl⟩
    · rw [if_neg h, if_neg h]; exact ⟨c, _, rfl, rfl⟩
theorem u8_eq {c : UInt8} {n : UInt8} (h : c.toNat = n.toNat) : c = n := UInt8.toNat_inj.1 h
theorem read_unit (c : UInt8) (U rest : List UInt8) (h1 : c.toNat = 91 → nbU U ≠ 58 ∧ nbU U ≠ 46 ∧ nbU U ≠ 61) (h2 : c.toNat = 92 → nbU U ≠ 110) : readT (tx c ++ uTxt U rest) = .ok (c, z4, false, (tx c).length) := by
  obtain ⟨x, t, hx, hn⟩ := uTxt_head U rest
  unfold tx
  by_cases h : c.toNat = 10
  · rw [if_pos h, u8_eq (n := 10) h]; rfl
  · rw [if_neg h, hx]
    show readC c x (x :: t) = _
    unfold readC
    rw [if_neg (by omega), if_neg (by omega)]; rfl
theorem dash_unit (U rest : List UInt8) (h : nbU U = 45 → U = [45]) : isD (uTxt U rest) = false := by
  by_cases hu : nbU U = 45
  · rw [h hu]; rfl
  · obtain ⟨x, t, hx, hn⟩ := uTxt_head U rest
    rw [hx]
    show (decide (x.toNat = 45) && _) = false
    rw [decide_eq_false (by omega)]; rfl
theorem part_unit (c : UInt8) (U rest : List UInt8) (h1 : c.toNat = 91 → nbU U ≠ 58 ∧ nbU U ≠ 46 ∧ nbU U ≠ 61) (h2 : c.toNat = 92 → nbU U ≠ 110) (h3 : nbU U = 45 → U = [45]) : partT (tx c ++ uTxt U rest) = .ok (ofS [c], (tx c).length) := by
  unfold partT
  rw [read_unit c U rest h1 h2]
  show partC _ (c, z4, false, (tx c).length) = _
  unfold partC
  simp only [List.drop_left]
  rw [if_pos (dash_unit U rest h3), if_neg Bool.false_ne_true]
def accS (f : SetT) (U : List UInt8) : SetT := U.foldl (fun f c => unS [f, ofS [c]]) f
theorem loop_units (rest : List UInt8) : ∀ (U : List UInt8) (n : Nat) (first : Bool) (f : SetT) (len : Nat), goodU first U → U.length < n → (first = true → U ≠ []) → loopT n first (uTxt U rest) f len = .ok (accS f U, len + (U.flatMap tx).length + 1) := by
  intro U
  induction U with
  | nil =>
    intro n first f len _ hn hf
    obtain ⟨n, rfl⟩ : ∃ j, n = j + 1 := ⟨n - 1, by rw [List.length_nil] at hn; omega⟩
    have : first = false := by
      cases first with
      | true => exact absurd rfl (hf rfl)
      | false => rfl
    rw [loopT_succ, if_pos ⟨this, rfl⟩]; rfl
  | cons c U ih =>
    intro n first f len hg hn _
    obtain ⟨h0, h1, h2, h3, h4⟩ := hg
    obtain ⟨n, rfl⟩ : ∃ j, n = j + 1 := ⟨n - 1, by rw [List.length_cons] at hn; omega⟩
    have hno : ¬ (first = false ∧ hd93 (uTxt (c :: U) rest) = true) := by
      rintro ⟨hf, h⟩
      obtain ⟨x, t, hx, hn⟩ := uTxt_head (c :: U) rest
      rw [hx] at h
      have hx93 : x.toNat = 93 := of_decide_eq_true h
      rw [nbU_cons] at hn
      by_cases hc : c.toNat = 10
      · rw [if_pos hc] at hn; omega
      · rw [if_neg hc] at hn
        rw [h0 (by omega)] at hf
        cases hf
    rw [loopT_succ, if_neg hno, uTxt_cons, part_unit c U rest h1 h2 h3]
    simp only [List.drop_left]
    rw [ih n false _ _ h4 (by rw [List.length_cons] at hn; omega) (fun h => by cases h), List.flatMap_cons, List.length_append]
    show Except.ok (accS f (c :: U), _) = Except.ok (accS f (c :: U), _)
    congr 2
    omega
theorem mem_acc : ∀ (U : List UInt8) (f : SetT) (d : Nat), d < 256 → memS (accS f U) d = (memS f d || U.any (fun c => decide (c.toNat = d))) := by
  intro U
  induction U with
  | nil => intro f d hd; simp [accS]
  | cons c U ih =>
    intro f d hd
    show memS (accS (unS [f, ofS [c]]) U) d = _
    rw [ih _ d hd, mem_un _ d hd, List.any_cons]
    simp only [List.any_cons, List.any_nil, Bool.or_false]
    rw [mem_of [c] d hd]
    simp only [List.any_cons, List.any_nil, Bool.or_false, Bool.or_assoc]
/-- The bytes of a text. -/
def midsU (s : SetT) : List UInt8 := (upTo s 256).filter (fun c => !spc c)
def unitsU (neg : Bool) (s : SetT) : List UInt8 := heads s ++ (midsU s ++ (tailL (alone neg s)).filter (hasS s))
theorem mid_units (l : List UInt8) : l.flatMap txm = (l.filter (fun c => !spc c)).flatMap tx := by
  induction l with
  | nil => rfl
  | cons c l ih =>
    rw [List.flatMap_cons, ih]
    unfold txm
    by_cases h : spc c = true
    · rw [if_pos h, List.filter_cons_of_neg (by simp [h])]; rfl
    · rw [if_neg h, List.filter_cons_of_pos (by simp [h]), List.flatMap_cons]
theorem tx_self {c : UInt8} (h : c.toNat ≠ 10) : tx c = [c] := by unfold tx; rw [if_neg h]
theorem flat_self : ∀ l : List UInt8, (∀ c ∈ l, c.toNat ≠ 10) → l.flatMap tx = l := by
  intro l
  induction l with
  | nil => intro _; rfl
  | cons c l ih =>
    intro h
    rw [List.flatMap_cons, tx_self (h c (by simp)), ih fun x hx => h x (by simp [hx])]; rfl
theorem tailL_mem (b : Bool) (c : UInt8) (h : c ∈ tailL b) : c.toNat = 91 ∨ c.toNat = 92 ∨ c.toNat = 94 ∨ c.toNat = 45 := by
  cases b
  · have h : c ∈ ([91, 92, 94, 45] : List UInt8) := h
    simp only [List.mem_cons, List.not_mem_nil, or_false] at h
    rcases h with rfl | rfl | rfl | rfl <;> decide
  · have h : c ∈ ([45, 94] : List UInt8) := h
    simp only [List.mem_cons, List.not_mem_nil, or_false] at h
    rcases h with rfl | rfl <;> decide
theorem text_units (neg : Bool) (s : SetT) (rest : List UInt8) : textS neg s ++ rest = preT neg ++ uTxt (unitsU neg s) rest := by
  unfold textS uTxt unitsU midT
  rw [mid_units, List.flatMap_append, List.flatMap_append, flat_self ((tailL (alone neg s)).filter (hasS s)) fun c hc => by have := tailL_mem _ c (List.mem_filter.1 hc).1; omega]
  rw [flat_self (heads s) fun c hc => by
    unfold heads at hc
    split at hc
    · rw [List.mem_singleton.1 hc]; decide
    · cases hc]
  simp [midsU]
theorem spc_iff (c : UInt8) : spc c = true ↔ (c.toNat = 93 ∨ c.toNat = 91 ∨ c.toNat = 92 ∨ c.toNat = 94 ∨ c.toNat = 45) := by
  unfold spc
  simp only [Bool.or_eq_true, decide_eq_true_eq]
theorem good_tail (neg : Bool) (s : SetT) : goodU false ((tailL (alone neg s)).filter (hasS s)) ∧ (nbU ((tailL (alone neg s)).filter (hasS s)) = 45 → (alone neg s = true ∨ (tailL (alone neg s)).filter (hasS s) = [45])) := by
  cases alone neg s with
  | true =>
    show goodU false (List.filter (hasS s) [45, 94]) ∧ _
    refine ⟨?_, fun _ => Or.inl rfl⟩
    cases h1 : hasS s 45 <;> cases h2 : hasS s 94 <;> simp [List.filter, h1, h2, goodU, nbU]
  | false =>
    show goodU false (List.filter (hasS s) [91, 92, 94, 45]) ∧ (nbU (List.filter (hasS s) [91, 92, 94, 45]) = 45 → (false = true ∨ List.filter (hasS s) [91, 92, 94, 45] = [45]))
    cases h1 : hasS s 91 <;> cases h2 : hasS s 92 <;> cases h3 : hasS s 94 <;> cases h4 : hasS s 45 <;> simp [List.filter, h1, h2, h3, h4, goodU, nbU]
theorem good_mids (T : List UInt8) (hT : goodU false T) (hb : nbU T = 45 → T = [45]) : ∀ (M : List UInt8), (∀ c ∈ M, spc c = false) → goodU false (M ++ T) ∧ (nbU (M ++ T) = 45 → M ++ T = [45]) := by
  intro M
  induction M with
  | nil => intro _; exact ⟨hT, hb⟩
  | cons c M ih =>
    intro h
    have hc : ¬ (c.toNat = 93 ∨ c.toNat = 91 ∨ c.toNat = 92 ∨ c.toNat = 94 ∨ c.toNat = 45) := fun e => by
      have := (spc_iff c).2 e
      rw [h c (by simp)] at this; cases this
    obtain ⟨k1, k2⟩ := ih fun x hx => h x (by simp [hx])
    refine ⟨⟨fun e => absurd e (by omega), fun e => absurd e (by omega), fun e => absurd e (by omega), k2, k1⟩, fun e => ?_⟩
    exfalso
    have e : (if c.toNat = 10 then 92 else c.toNat) = 45 := e
    split at e <;> omega
theorem good_first {U : List UInt8} (h : goodU false U) : goodU true U := by
  cases U with
  | nil => trivial
  | cons c U => exact ⟨fun _ => rfl, h.2⟩
theorem mids_spc (s : SetT) : ∀ c ∈ midsU s, spc c = false := fun c hc => by
  have := (List.mem_filter.1 hc).2
  simpa using this
theorem good_units (neg : Bool) (s : SetT) : goodU true (unitsU neg s) := by
  obtain ⟨t1, t2⟩ := good_tail neg s
  unfold unitsU
  cases ha : alone neg s with
  | true =>
    have h0 : heads s ++ midT s = [] := (of_decide_eq_true ha).2.1
    have hh : heads s = [] := (List.append_eq_nil_iff.1 h0).1
    have hm : midsU s = [] := by
      have h1 : midT s = [] := (List.append_eq_nil_iff.1 h0).2
      unfold midT at h1
      rw [mid_units] at h1
      cases hq : midsU s with
      | nil => rfl
      | cons c M =>
        unfold midsU at hq
        rw [hq, List.flatMap_cons] at h1
        have := (tx_len c).2
        rw [(List.append_eq_nil_iff.1 h1).1] at this
        simp at this
    rw [ha] at t1
    rw [hh, hm]
    exact good_first t1
  | false =>
    rw [ha] at t1 t2
    have hb : nbU ((tailL false).filter (hasS s)) = 45 → (tailL false).filter (hasS s) = [45] := fun h => (t2 h).resolve_left (by decide)
    obtain ⟨k1, k2⟩ := good_mids _ t1 hb (midsU s) (mids_spc s)
    unfold heads
    split
    · exact ⟨fun _ => rfl, fun h => absurd h (by decide), fun h => absurd h (by decide), k2, k1⟩
    · exact good_first k1
theorem upTo_mem (s : SetT) (c : UInt8) : c ∈ upTo s 256 ↔ hasS s c = true := by
  unfold upTo hasS
  rw [List.mem_map]
  constructor
  · rintro ⟨n, hn, rfl⟩
    rw [List.mem_filter, List.mem_range] at hn
    rw [UInt8.toNat_ofNat_of_lt' (by simp [UInt8.size]; omega)]
    exact hn.2
  · intro h
    exact ⟨c.toNat, List.mem_filter.2 ⟨List.mem_range.2 c.toNat_lt, h⟩, UInt8.ofNat_toNat⟩
theorem units_mem (neg : Bool) (s : SetT) (c : UInt8) : c ∈ unitsU neg s ↔ hasS s c = true := by
  unfold unitsU
  rw [List.mem_append, List.mem_append]
  constructor
  · rintro (h | h | h)
    · unfold heads at h
      split at h
      · rename_i h1; rw [List.mem_singleton.1 h]; exact h1
      · cases h
    · exact (upTo_mem s c).1 (List.mem_filter.1 h).1
    · exact (List.mem_filter.1 h).2
  · intro h
    by_cases hs : spc c = true
    · rcases (spc_iff c).1 hs with e | e
      · left
        have : c = 93 := u8_eq e
        subst this
        unfold heads
        rw [if_pos h]; simp
      · right; right
        refine List.mem_filter.2 ⟨?_, h⟩
        cases ha : alone neg s with
        | true =>
          obtain ⟨_, _, a1, a2⟩ := of_decide_eq_true ha
          rcases e with e | e | e | e
          · have : c = 91 := u8_eq e
            subst this; rw [a1] at h; cases h
          · have : c = 92 := u8_eq e
            subst this; rw [a2] at h; cases h
          · have : c = 94 := u8_eq e
            subst this; decide
          · have : c = 45 := u8_eq e
            subst this; decide
        | false =>
          rcases e with e | e | e | e
          · have : c = 91 := u8_eq e
            subst this; decide
          · have : c = 92 := u8_eq e
            subst this; decide
          · have : c = 94 := u8_eq e
            subst this; decide
          · have : c = 45 := u8_eq e
            subst this; decide
    · right; left
      exact List.mem_filter.2 ⟨(upTo_mem s c).2 h, by simpa using hs⟩
theorem acc_units (neg : Bool) (s : SetT) : accS z4 (unitsU neg s) = s := by
  refine set_ext fun d hd => ?_
  rw [mem_acc _ _ _ hd, mem_rep d hd, Bool.false_or]
  have e : (UInt8.ofNat d).toNat = d := by rw [UInt8.toNat_ofNat_of_lt' (by simp [UInt8.size]; omega)]
  cases h : memS s d with
  | true =>
    refine List.any_eq_true.2 ⟨UInt8.ofNat d, (units_mem neg s _).2 ?_, decide_eq_true e⟩
    unfold hasS; rw [e]; exact h
  | false =>
    refine Bool.eq_false_iff.2 fun h2 => ?_
    obtain ⟨c, hc, hd2⟩ := List.any_eq_true.1 h2
    have := (units_mem neg s c).1 hc
    unfold hasS at this
    rw [of_decide_eq_true hd2, h] at this
    cases this
theorem units_ne (neg : Bool) (s : SetT) (h : (upTo s 256).length ≠ 0) : unitsU neg s ≠ [] := by
  intro e
  cases hq : upTo s 256 with
  | nil => exact h (by rw [hq]; rfl)
  | cons c l =>
    have : c ∈ upTo s 256 := by rw [hq]; simp
    have := (units_mem neg s c).2 ((upTo_mem s c).1 this)
    rw [e] at this; cases this
theorem units_head (s : SetT) (h94 : s ≠ ofS [94]) (t : List UInt8) (h : unitsU false s = 94 :: t) : False := by
  unfold unitsU at h
  have hh : heads s = [] := by
    unfold heads at h ⊢
    split at h
    · injection h with h; exact absurd h (by decide)
    · rename_i h1; rw [if_neg h1]
  rw [hh, List.nil_append] at h
  have hm : midsU s = [] := by
    cases hq : midsU s with
    | nil => rfl
    | cons c M =>
      rw [hq] at h
      injection h with h
      have := mids_spc s c (by rw [hq]; simp)
      rw [h] at this; exact absurd this (by decide)
  rw [hm, List.nil_append] at h
  have hmt : midT s = [] := by
    unfold midT
    rw [mid_units]
    show (midsU s).flatMap tx = []
    rw [hm]; rfl
  cases ha : alone false s with
  | false =>
    rw [ha] at h
    have h : List.filter (hasS s) [91, 92, 94, 45] = 94 :: t := h
    have h1 : hasS s 91 = false := by
      cases h1 : hasS s 91 with
      | false => rfl
      | true => rw [List.filter_cons_of_pos h1] at h; injection h with h; exact absurd h (by decide)
    have h2 : hasS s 92 = false := by
      cases h2 : hasS s 92 with
      | false => rfl
      | true => rw [List.filter_cons_of_neg (by rw [h1]; decide), List.filter_cons_of_pos h2] at h; injection h with h; exact absurd h (by decide)
    have : alone false s = true := decide_eq_true ⟨rfl, by rw [hh, hmt]; rfl, h1, h2⟩
    rw [ha] at this; cases this
  | true =>
    rw [ha] at h
    obtain ⟨_, _, a1, a2⟩ := of_decide_eq_true ha
    have h : List.filter (hasS s) [45, 94] = 94 :: t := h
    have h1 : hasS s 45 = false := by
      cases h1 : hasS s 45 with
      | false => rfl
      | true => rw [List.filter_cons_of_pos h1] at h; injection h with h; exact absurd h (by decide)
    have h94' : hasS s 94 = true := by
      have : (94 : UInt8) ∈ List.filter (hasS s) [45, 94] := by rw [h]; simp
      exact (List.mem_filter.1 this).2
    refine h94 (set_ext fun d hd => ?_)
    have e : (UInt8.ofNat d).toNat = d := by rw [UInt8.toNat_ofNat_of_lt' (by simp [UInt8.size]; omega)]
    rw [mem_of [94] d hd]
    simp only [List.any_cons, List.any_nil, Bool.or_false]
    by_cases hd94 : d = 94
    · subst hd94; exact h94'
    · rw [decide_eq_false (show ¬ (94 : UInt8).toNat = d from fun e => hd94 e.symm)]
      refine Bool.eq_false_iff.2 fun hm2 => ?_
      have hin : hasS s (UInt8.ofNat d) = true := by unfold hasS; rw [e]; exact hm2
      have := (units_mem false s _).2 hin
      unfold unitsU at this
      rw [hh, hm, ha, List.nil_append, List.nil_append] at this
      have this : UInt8.ofNat d ∈ List.filter (hasS s) [45, 94] := this
      rw [List.filter_cons_of_neg (by rw [h1]; decide), List.filter_cons_of_pos h94'] at this
      have := List.mem_singleton.1 this
      exact hd94 (by rw [← e, this]; rfl)
end Go.Proofs.Ytgplmognfmjllaa
