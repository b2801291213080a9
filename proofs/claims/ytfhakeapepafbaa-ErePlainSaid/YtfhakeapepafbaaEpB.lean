/- The parser of extended regular expressions as a function of a text. -/
import Derived.Test.YtfhakeapepafbaaEpA
namespace Go.Proofs.Ytfhakeapepafbaa
abbrev PS9 := (List ND × Int) × List UInt8 × Int × Int × Arr 10 Bool
def ps9 (b : List UInt8) (s : Pz) (e : Int) : PS9 := ((s.L, (s.g : Int)), b, (s.p : Int), e, s.cl)
/-- A node's number or -1, an error's number or 0, a state. -/
abbrev R9 := Int × Int × Pz
def rs9 (b : List UInt8) (q : R9) : Int × PS9 := (q.1, ps9 b q.2.2 q.2.1)
def noE (s : Pz) (e : Int) : R9 := (-1, e, s)
def okE (x : Int × Pz) : R9 := if x.1 < 0 then (-1, 8, x.2) else (x.1, 0, x.2)
def altS : List Int → Pz → Int × Pz
  | [], s => (-1, s)
  | x :: t, s => if x < 0 ∨ (s.L.length : Int) ≤ x then (-1, s) else foldS 3 t x s
def intvE (b : List UInt8) (k lo hi : Int) (s : Pz) (a : Nat) : R9 :=
  if b[a]? = some 125 ∧ ¬ (hi ≠ -1 ∧ hi < lo) then okE (putS (4, k, 0, lo, hi, 0, setZ) { s with p := a + 1 }) else noE s 13
def intv9 (b : List UInt8) (k : Int) (s : Pz) : R9 :=
  if (numR b (s.p + 1)).2.2 ≠ 0 then noE s 13
  else if b[(numR b (s.p + 1)).2.1.toNat]? = some 44 then
    (if (numR b ((numR b (s.p + 1)).2.1.toNat + 1)).2.2 = 0 then intvE b k (numR b (s.p + 1)).1 (numR b ((numR b (s.p + 1)).2.1.toNat + 1)).1 s (numR b ((numR b (s.p + 1)).2.1.toNat + 1)).2.1.toNat
    else if (numR b ((numR b (s.p + 1)).2.1.toNat + 1)).2.2 = 9 then intvE b k (numR b (s.p + 1)).1 (-1) s ((numR b (s.p + 1)).2.1.toNat + 1)
    else noE s 13)
  else intvE b k (numR b (s.p + 1)).1 (numR b (s.p + 1)).1 s (numR b (s.p + 1)).2.1.toNat
def rep9 (b : List UInt8) (k : Int) (s : Pz) : R9 :=
  if b[s.p]? = some 43 then okE (putS (4, k, 0, 1, -1, 0, setZ) (adv s 1))
  else if b[s.p]? = some 63 then okE (putS (4, k, 0, 0, 1, 0, setZ) (adv s 1))
  else if b[s.p]? = some 123 then intv9 b k s
  else okE (putS (4, k, 0, 0, -1, 0, setZ) (adv s 1))
def repC (c : UInt8) : Prop := c = 42 ∨ c = 43 ∨ c = 63 ∨ c = 123
instance (c : UInt8) : Decidable (repC c) := by unfold repC; infer_instance
def isRep (b : List UInt8) (p : Nat) : Bool := match b[p]? with | none => false | some c => decide (repC c)
def reps9 (b : List UInt8) : Nat → Int → Int → Pz → R9
  | 0, k, e, s => (k, e, s)
  | n + 1, k, e, s => if e = 0 ∧ isRep b s.p = true then reps9 b n (rep9 b k s).1 (rep9 b k s).2.1 (rep9 b k s).2.2 else (k, e, s)
def esc9 (b : List UInt8) (s : Pz) : R9 := match b[s.p + 1]? with
  | none => noE s 10
  | some c => if 49 ≤ c.toNat ∧ c.toNat ≤ 57 then (if s.cl.l[c.toNat - 48]? = some true then okE (putS (6, 0, 0, 0, 0, (c.toNat : Int) - 48, setZ) (adv s 2)) else noE s 16)
    else if alnB c.toNat = true ∧ c.toNat ≠ 110 then noE s 10
    else okE (putS (setN (ofS [if c.toNat = 110 then 10 else c])) (adv s 2))
def leaf9 (b : List UInt8) (s : Pz) (c : UInt8) : R9 :=
  if c = 92 then esc9 b s
  else if c = 46 then okE (putS (setN (notS z4)) (adv s 1))
  else if c = 91 then (if (parseR b (s.p + 1)).2.2 = 0 then okE (putS (setN (parseR b (s.p + 1)).1) { s with p := (parseR b (s.p + 1)).2.1.toNat }) else noE s (parseR b (s.p + 1)).2.2)
  else okE (putS (setN (ofS [c])) (adv s 1))
inductive J9 where
  | alts (inner : Bool) (s : Pz)
  | altl (inner : Bool) (l : List Int) (e : Int) (s : Pz)
  | branch (inner : Bool) (s : Pz)
  | brl (inner : Bool) (l : List Int) (e : Int) (s : Pz)
  | piece (s : Pz)
  | atom (s : Pz)
  | group (s : Pz)
def altE (b : List UInt8) (x : Bool) (l : List Int) (e : Int) (s : Pz) : R9 :=
  if e ≠ 0 then (-1, e, s) else if x = true ∧ b[s.p]? ≠ some 41 then noE s 14 else okE (altS l s)
def brE (l : List Int) (e : Int) (s : Pz) : R9 :=
  if e ≠ 0 then (-1, e, s) else if l = [] then noE s 15 else okE (catS l s)
def moreB (b : List UInt8) (x : Bool) (e : Int) (s : Pz) : Bool := decide (e = 0) && (decide (s.p < b.length) && (decide (b[s.p]? ≠ some 124) && !(x && decide (b[s.p]? = some 41))))
def grpE (g : Nat) (q : R9) : R9 := if q.2.1 ≠ 0 then (-1, q.2.1, q.2.2) else okE (putS (5, q.1, 0, 0, 0, ((g + 1 : Nat) : Int), setZ) { q.2.2 with p := q.2.2.p + 1, cl := Arr.set q.2.2.cl (g + 1) true })
def go9 (b : List UInt8) : Nat → J9 → Option R9
  | 0, _ => none
  | n + 1, .alts x s => (go9 b n (.branch x s)).bind fun q => go9 b n (.altl x [q.1] q.2.1 q.2.2)
  | n + 1, .altl x l e s => if e = 0 ∧ b[s.p]? = some 124 then (go9 b n (.branch x (adv s 1))).bind fun q => go9 b n (.altl x (l ++ [q.1]) q.2.1 q.2.2)
    else some (altE b x l e s)
  | n + 1, .branch x s => go9 b n (.brl x [] 0 s)
  | n + 1, .brl x l e s => if moreB b x e s = true then (go9 b n (.piece s)).bind fun q => go9 b n (.brl x (l ++ [q.1]) q.2.1 q.2.2)
    else some (brE l e s)
  | n + 1, .piece s => match b[s.p]? with
    | none => none
    | some c => if c = 94 then some (okE (putS (7, 0, 0, 0, 0, 0, setZ) (adv s 1)))
      else if c = 36 then some (okE (putS (8, 0, 0, 0, 0, 0, setZ) (adv s 1)))
      else (go9 b n (.atom s)).map fun q => reps9 b (b.length + 1) q.1 q.2.1 q.2.2
  | n + 1, .atom s => match b[s.p]? with
    | none => none
    | some c => if repC c then some (noE s 13)
      else if c = 41 then some (noE s 14)
      else if c = 40 then go9 b n (.group s)
      else some (leaf9 b s c)
  | n + 1, .group s => if 9 ≤ s.g then some (noE s 17) else (go9 b n (.alts true { s with g := s.g + 1, p := s.p + 1 })).map (grpE s.g)
/-! ## The leaves -/
theorem put9_ok (b : List UInt8) (n : ND) (s : Pz) (e : Int) : tree_Builder_put_R (ps9 b s e) n ((putS n s).1, ps9 b (putS n s).2 e) := by
  unfold putS
  refine split_ (fun h => ?_) fun h => ?_
  · have h : (1000 : Int) ≤ (s.L.length : Int) := h
    rw [if_pos (by omega)]
  · have h : ¬ (1000 : Int) ≤ (s.L.length : Int) := h
    rw [if_neg (by omega)]
    refine ⟨_, isNode_ok n s.L.length s.g, split_ (fun h1 => ?_) fun h1 => ?_⟩
    · rw [if_neg h1]
    · have h1 := Decidable.not_not.1 h1
      rw [if_pos h1]
      refine room_ (by show s.L.length + 1 ≤ _; omega) (by omega) (inR_ ?_ ?_)
      · show -9223372036854775808 ≤ ((s.L ++ [n]).length : Int) - 1 ∧ ((s.L ++ [n]).length : Int) - 1 ≤ 9223372036854775807
        simp; omega
      · have : ((s.L ++ [n]).length : Int) - 1 = (s.L.length : Int) := by simp
        show _ = (((s.L ++ [n]).length : Int) - 1, _)
        rw [this]; rfl
theorem fail9_ok (b : List UInt8) (s : Pz) (e : Int) : ere_parser_fail_R (ps9 b s 0) e (rs9 b (noE s e)) := split_ (fun _ => rfl) fun h => absurd rfl h
theorem putE_ok (b : List UInt8) (x : Int × Pz) : ere_parser_put_R (ps9 b x.2 0) x.1 (rs9 b (okE x)) := by
  unfold okE
  refine split_ (fun h => ⟨_, fail9_ok b x.2 8, ?_⟩) fun h => ?_
  · rw [if_pos h]; rfl
  · rw [if_neg h]; rfl
theorem more9_ok (b : List UInt8) (s : Pz) (e : Int) : ere_parser_more_R (ps9 b s e) (decide (e = 0) && decide (s.p < b.length)) := by
  refine split_ (fun h => ?_) fun h => ?_
  · have h : e = 0 := h
    subst h
    show (decide ((0 : Int) = 0) && decide (s.p < b.length)) = decide ((s.p : Int) < (b.length : Int))
    by_cases h2 : s.p < b.length
    · rw [decide_eq_true h2, decide_eq_true (show (s.p : Int) < (b.length : Int) by omega)]; rfl
    · rw [decide_eq_false h2, decide_eq_false (show ¬ (s.p : Int) < (b.length : Int) by omega)]; rfl
  · have h : ¬ e = 0 := h
    rw [decide_eq_false h]; rfl
theorem is9_ok (b : List UInt8) (s : Pz) (e : Int) (c : UInt8) : ere_parser_is_R (ps9 b s e) c (decide (e = 0) && decide (b[s.p]? = some c)) := by
  refine ⟨_, more9_ok b s e, split_ (fun h => ?_) fun h => ?_⟩
  · simp only [Bool.and_eq_true, decide_eq_true_eq] at h
    obtain ⟨rfl, h⟩ := h
    refine ⟨by show (0 : Int) ≤ (s.p : Int); omega, b[s.p], by show b[((s.p : Int)).toNat]? = _; rw [Int.toNat_natCast]; exact List.getElem?_eq_getElem h, ?_⟩
    rw [List.getElem?_eq_getElem h]
    by_cases h2 : b[s.p] = c
    · rw [h2]; simp
    · rw [decide_eq_false (fun e => h2 (Option.some.inj e)), decide_eq_false (fun e => h2 (u8_inj e))]; rfl
  · by_cases he : e = 0
    · subst he
      have h : ¬ s.p < b.length := fun h2 => h (by simp [h2])
      rw [List.getElem?_eq_none (by omega)]; rfl
    · rw [decide_eq_false he]; rfl
theorem fold9_ok (b : List UInt8) (kind : Int) (x : Int) (t : List Int) (s : Pz) (ht : t.length ≤ 100000) : ¬ (x < 0) → ¬ ((s.L.length : Int) ≤ x) →
    tree_Builder_fold_R (ps9 b s 0) kind (x :: t) ((foldS kind t x s).1, ps9 b (foldS kind t x s).2 0) := fun h0 h1 => by
  refine ⟨by decide, x, rfl, split_ (fun h => absurd h h0) fun _ => ⟨by decide, x, rfl, split_ (fun h => absurd h h1) fun _ => ⟨by decide, x, rfl, ⟨by decide, by show (1 : Int) ≤ ((t.length + 1 : Nat) : Int); omega⟩, ?_⟩⟩⟩
  refine loop_ (fun (st : Int × Int × List ND × Int × List UInt8 × Int × Int × Arr 10 Bool) m => ∃ (k : Nat) (at_ : Int) (s' : Pz), k ≤ t.length ∧ m = t.length - k ∧ st = (at_, (k : Int), s'.L, (s'.g : Int), b, (s'.p : Int), 0, s'.cl) ∧ foldS kind (t.drop k) at_ s' = foldS kind t x s) t.length ⟨0, x, s, by omega, rfl, rfl, rfl⟩ ?_
  rintro _ m ⟨k, at_, s', hk, rfl, rfl, he⟩
  show tree_Builder_fold_l1 (x :: t) kind _ at_ (k : Int) s'.L (s'.g : Int) b (s'.p : Int) 0 s'.cl _
  refine split_ (fun h => ?_) fun h => ?_
  · have h : (k : Int) < (t.length : Int) := h
    obtain ⟨y, hy⟩ : ∃ y, t[k]? = some y := ⟨t[k]'(by omega), List.getElem?_eq_getElem (by omega)⟩
    have hd : t.drop k = y :: t.drop (k + 1) := drop_g hy
    rw [hd] at he
    refine ⟨by omega, y, hy, split_ (fun h2 => ?_) fun h2 => ?_⟩
    · rw [← he, fold_cons, if_pos h2]; rfl
    · rw [fold_cons, if_neg h2] at he
      refine ⟨_, put9_ok b _ s' 0, inR_ (by omega) ⟨t.length - (k + 1), by omega, k + 1, _, (putS (kind, at_, y, 0, 0, 0, setZ) s').2, by omega, rfl, rfl, he⟩⟩
  · have h : ¬ (k : Int) < (t.length : Int) := h
    obtain rfl : k = t.length := by omega
    rw [List.drop_length] at he
    rw [← he]; rfl
theorem foldR9 (b : List UInt8) (kind : Int) (x : Int) (t : List Int) (s : Pz) (ht : t.length ≤ 100000) :
    tree_Builder_fold_R (ps9 b s 0) kind (x :: t) ((if x < 0 ∨ (s.L.length : Int) ≤ x then (-1, s) else foldS kind t x s).1, ps9 b (if x < 0 ∨ (s.L.length : Int) ≤ x then (-1, s) else foldS kind t x s).2 0) := by
  by_cases h0 : x < 0
  · rw [if_pos (.inl h0)]
    exact ⟨by decide, x, rfl, split_ (fun _ => rfl) fun h => absurd h0 h⟩
  · by_cases h1 : (s.L.length : Int) ≤ x
    · rw [if_pos (.inr h1)]
      exact ⟨by decide, x, rfl, split_ (fun h => absurd h h0) fun _ => ⟨by decide, x, rfl, split_ (fun _ => rfl) fun h => absurd h1 h⟩⟩
    · rw [if_neg (by omega)]
      exact fold9_ok b kind x t s ht h0 h1
theorem cat9_ok (b : List UInt8) (l : List Int) (s : Pz) (hl : l.length ≤ 100000) : tree_Builder_Cat_R (ps9 b s 0) l ((catS l s).1, ps9 b (catS l s).2 0) := by
  cases l with
  | nil => exact split_ (fun _ => ⟨_, ⟨_, put9_ok b _ s 0, rfl⟩, rfl⟩) fun h => absurd rfl h
  | cons x t => exact split_ (fun h => absurd h (by simp; omega)) fun _ => ⟨_, foldR9 b 2 x t s (by simp at hl; omega), rfl⟩
theorem alt9_ok (b : List UInt8) (l : List Int) (s : Pz) (hl : l.length ≤ 100000) : tree_Builder_Alt_R (ps9 b s 0) l ((altS l s).1, ps9 b (altS l s).2 0) := by
  cases l with
  | nil => exact split_ (fun _ => rfl) fun h => absurd rfl h
  | cons x t => exact split_ (fun h => absurd h (by simp; omega)) fun _ => ⟨_, foldR9 b 3 x t s (by simp at hl; omega), rfl⟩
theorem rep9_put (b : List UInt8) (k lo hi : Int) (s : Pz) : ∃ y, tree_Builder_Rep_R (ps9 b s 0) k lo hi y ∧ ∃ z, ere_parser_put_R y.2 y.1 z ∧ rs9 b (okE (putS (4, k, 0, lo, hi, 0, setZ) s)) = (z.1, z.2) :=
  ⟨_, ⟨_, put9_ok b _ s 0, rfl⟩, _, putE_ok b (putS (4, k, 0, lo, hi, 0, setZ) s), rfl⟩
theorem set9_ok (b : List UInt8) (S : SetT) (s : Pz) (n : Int) (a : Nat) (ha : (s.p : Int) + n = (a : Int)) (h : a ≤ 100000) : ere_parser_set_R (ps9 b s 0) n S (rs9 b (okE (putS (setN S) { s with p := a }))) := by
  refine inR_ (by show -9223372036854775808 ≤ (s.p : Int) + n ∧ (s.p : Int) + n ≤ _; omega) ⟨((putS (setN S) { s with p := a }).1, ps9 b (putS (setN S) { s with p := a }).2 0), ⟨((putS (setN S) { s with p := a }).1, ps9 b (putS (setN S) { s with p := a }).2 0), ?_, rfl⟩, _, putE_ok b _, rfl⟩
  show tree_Builder_put_R ((s.L, (s.g : Int)), b, (s.p : Int) + n, 0, s.cl) _ _
  rw [ha]
  exact put9_ok b (setN S) { s with p := a } 0
theorem intvE_ok (b : List UInt8) (k : Int) (y : Int × Int × Int) (hi : Int) (s : Pz) (a : Nat) (ha : a ≤ b.length) (hb : b.length ≤ 1000) :
    ere_parser_interval_j1 (ps9 b s 0) k y (a : Int) hi (rs9 b (intvE b k y.1 hi s a)) := by
  have j3 : ∀ x : Bool, (x = false ↔ (b[a]? = some 125 ∧ ¬ (hi ≠ -1 ∧ hi < y.1))) → ere_parser_interval_j3 (ps9 b s 0) (a : Int) k y hi x (rs9 b (intvE b k y.1 hi s a)) := fun x hx => by
    unfold intvE
    refine split_ (fun h => ⟨_, fail9_ok b s 13, ?_⟩) fun h => inR_ (by omega) ?_
    · rw [if_neg (fun e => by rw [h] at hx; exact absurd (hx.2 e) (by decide))]
    · rw [if_pos (hx.1 (by simpa using h))]
      exact rep9_put b k y.1 hi { s with p := a + 1 }
  refine split_ (fun h => j3 true ?_) fun h => ?_
  · have h : (b.length : Int) ≤ (a : Int) := h
    rw [List.getElem?_eq_none (by omega)]
    exact ⟨(fun e => by cases e), (fun e => by cases e.1)⟩
  · have h : ¬ (b.length : Int) ≤ (a : Int) := h
    obtain ⟨c, hc⟩ : ∃ c, b[a]? = some c := ⟨_, List.getElem?_eq_getElem (by omega)⟩
    refine ⟨by omega, c, by show b[((a : Int)).toNat]? = _; rw [Int.toNat_natCast]; exact hc, j3 _ ?_⟩
    rw [hc, Bool.or_eq_false_iff, Bool.and_eq_false_iff]
    simp only [Bool.not_eq_false', decide_eq_true_eq, decide_eq_false_iff_not]
    constructor
    · rintro ⟨h1, h2⟩
      exact ⟨by rw [u8_inj (a := c) (b := 125) h1], fun e => h2.elim (fun h2 => e.1 h2) fun h2 => h2 e.2⟩
    · rintro ⟨h1, h2⟩
      injection h1 with h1
      subst h1
      refine ⟨rfl, ?_⟩
      by_cases e : hi = -1
      · exact .inl e
      · exact .inr fun e2 => h2 ⟨e, e2⟩
theorem intv9_ok (b : List UInt8) (k : Int) (s : Pz) (hb : b.length ≤ 1000) (hp : s.p + 1 ≤ b.length) : ere_parser_interval_R (ps9 b s 0) k (rs9 b (intv9 b k s)) := by
  refine inR_ (by show -9223372036854775808 ≤ (s.p : Int) + 1 ∧ (s.p : Int) + 1 ≤ _; omega) ⟨_, num_ok b (s.p + 1) hb hp, ?_⟩
  unfold intv9
  refine split_ (fun h => ⟨_, fail9_ok b s 13, ?_⟩) fun h => ?_
  · rw [if_pos h]
  rw [if_neg h]
  obtain ⟨z, hz, hz1, hz2⟩ := num_next (Decidable.not_not.1 h) hp
  have j2 : ∀ x : Bool, (x = true ↔ b[z]? = some 44) → ere_parser_interval_j2 (numR b (s.p + 1)) (ps9 b s 0) k x (rs9 b (if b[(numR b (s.p + 1)).2.1.toNat]? = some 44 then
    (if (numR b ((numR b (s.p + 1)).2.1.toNat + 1)).2.2 = 0 then intvE b k (numR b (s.p + 1)).1 (numR b ((numR b (s.p + 1)).2.1.toNat + 1)).1 s (numR b ((numR b (s.p + 1)).2.1.toNat + 1)).2.1.toNat
    else if (numR b ((numR b (s.p + 1)).2.1.toNat + 1)).2.2 = 9 then intvE b k (numR b (s.p + 1)).1 (-1) s ((numR b (s.p + 1)).2.1.toNat + 1)
    else noE s 13)
  else intvE b k (numR b (s.p + 1)).1 (numR b (s.p + 1)).1 s (numR b (s.p + 1)).2.1.toNat)) := fun x hx => by
    rw [hz, Int.toNat_natCast]
    refine split_ (fun h1 => ?_) fun h1 => ?_
    · have hc := hx.1 h1
      have hl := (List.getElem?_eq_some_iff.1 hc).1
      rw [if_pos hc, hz]
      refine inR_ (by omega) ⟨_, num_ok b (z + 1) hb hl, split_ (fun h2 => ?_) fun h2 => split_ (fun h3 => inR_ (by omega) ?_) fun h3 => ⟨_, fail9_ok b s 13, ?_⟩⟩
      · rw [if_pos h2]
        obtain ⟨w, hw, hw1, hw2⟩ := num_next h2 hl
        rw [hw, Int.toNat_natCast]
        exact intvE_ok b k (numR b (s.p + 1)) _ s w hw2 hb
      · rw [if_neg h2, if_pos h3]
        exact intvE_ok b k (numR b (s.p + 1)) (-1) s (z + 1) hl hb
      · rw [if_neg h2, if_neg h3]
    · rw [if_neg (fun e => h1 (hx.2 e)), hz]
      exact intvE_ok b k (numR b (s.p + 1)) _ s z hz2 hb
  refine split_ (fun h1 => ?_) fun h1 => j2 false ?_
  · have h1 : (numR b (s.p + 1)).2.1 < (b.length : Int) := h1
    obtain ⟨c, hc⟩ : ∃ c, b[z]? = some c := ⟨_, List.getElem?_eq_getElem (by omega)⟩
    refine ⟨by rw [hz]; omega, c, by rw [hz]; show b[((z : Int)).toNat]? = _; rw [Int.toNat_natCast]; exact hc, j2 _ ?_⟩
    rw [hc, decide_eq_true_eq]
    exact ⟨fun e => by rw [u8_inj (a := c) (b := 44) e], fun e => by injection e with e; rw [e]; rfl⟩
  · have h1 : ¬ (numR b (s.p + 1)).2.1 < (b.length : Int) := h1
    rw [List.getElem?_eq_none (by omega)]
    exact ⟨(fun e => by cases e), (fun e => by cases e)⟩
theorem rep9_ok (b : List UInt8) (k : Int) (s : Pz) (hb : b.length ≤ 1000) (hp : s.p < b.length) : ere_parser_repeat_R (ps9 b s 0) k (rs9 b (rep9 b k s)) := by
  obtain ⟨c, hc⟩ : ∃ c, b[s.p]? = some c := ⟨_, List.getElem?_eq_getElem hp⟩
  have j1 : ∀ lo hi, ere_parser_repeat_j1 (ps9 b s 0) k lo hi (rs9 b (okE (putS (4, k, 0, lo, hi, 0, setZ) (adv s 1)))) := fun lo hi => inR_ (by show -9223372036854775808 ≤ (s.p : Int) + 1 ∧ (s.p : Int) + 1 ≤ _; omega) (rep9_put b k lo hi (adv s 1))
  refine ⟨by show (0 : Int) ≤ (s.p : Int); omega, c, by show b[((s.p : Int)).toNat]? = _; rw [Int.toNat_natCast]; exact hc, ?_⟩
  unfold rep9
  rw [hc]
  refine split_ (fun h => ?_) fun h => split_ (fun h2 => ?_) fun h2 => split_ (fun h3 => ?_) fun h3 => ?_
  · rw [if_pos (by rw [u8_inj (a := c) (b := 43) h])]; exact j1 1 (-1)
  all_goals rw [if_neg (fun e => h (by injection e with e; rw [e]; rfl))]
  · rw [if_pos (by rw [u8_inj (a := c) (b := 63) h2])]; exact j1 0 1
  all_goals rw [if_neg (fun e => h2 (by injection e with e; rw [e]; rfl))]
  · rw [if_pos (by rw [u8_inj (a := c) (b := 123) h3])]; exact ⟨_, intv9_ok b k s hb hp, rfl⟩
  · rw [if_neg (fun e => h3 (by injection e with e; rw [e]; rfl))]; exact j1 0 (-1)
theorem esc9_ok (b : List UInt8) (s : Pz) (hb : b.length ≤ 1000) (hp : s.p + 1 ≤ b.length) : ere_parser_escape_R (ps9 b s 0) (rs9 b (esc9 b s)) := by
  have hin : InR ((s.p : Int) + 1) := ⟨by omega, by omega⟩
  unfold esc9
  refine inR_ hin (split_ (fun h => ⟨_, fail9_ok b s 10, ?_⟩) fun h => inR_ hin ?_)
  · have h : (s.p : Int) + 1 = (b.length : Int) := h
    rw [List.getElem?_eq_none (by omega)]
  · have h : ¬ (s.p : Int) + 1 = (b.length : Int) := h
    obtain ⟨c, hc⟩ : ∃ c, b[s.p + 1]? = some c := ⟨_, List.getElem?_eq_getElem (by omega)⟩
    have hcl := c.toNat_lt
    rw [hc]
    dsimp only
    refine ⟨by show (0 : Int) ≤ (s.p : Int) + 1; omega, c, by show b[((s.p : Int) + 1).toNat]? = _; rw [show ((s.p : Int) + 1).toNat = s.p + 1 by omega]; exact hc, ?_⟩
    have hlen : s.cl.l.length = 10 := s.cl.len
    refine split_ (fun h1 => ?_) fun h1 => ?_
    · simp only [Bool.and_eq_true, decide_eq_true_eq] at h1
      rw [if_pos (by omega)]
      refine exU8 (by omega) fun d hd => ⟨by omega, ?_⟩
      have ed : ((d.toNat : Int)).toNat = c.toNat - 48 := by omega
      obtain ⟨y, hy⟩ : ∃ y, s.cl.l[c.toNat - 48]? = some y := ⟨_, List.getElem?_eq_getElem (by omega)⟩
      refine ⟨y, by show s.cl.l[((d.toNat : Int)).toNat]? = _; rw [ed]; exact hy, split_ (fun h2 => ⟨_, fail9_ok b s 16, ?_⟩) fun h2 => inR_ (by show -9223372036854775808 ≤ (s.p : Int) + 2 ∧ (s.p : Int) + 2 ≤ _; omega) (exU8 (by omega) fun d' hd' => ?_)⟩
      · rw [hy, if_neg (fun e => h2 (Option.some.inj e))]
      · rw [hy, Decidable.not_not.1 h2, if_pos rfl, hd']
        exact ⟨_, ⟨_, put9_ok b (6, 0, 0, 0, 0, (c.toNat : Int) - 48, setZ) (adv s 2) 0, rfl⟩, _, putE_ok b _, rfl⟩
    · have h1 : ¬ (49 ≤ c.toNat ∧ c.toNat ≤ 57) := fun e => h1 (by rw [decide_eq_true (by omega), decide_eq_true (by omega)]; rfl)
      rw [if_neg h1]
      refine ⟨_, dis_ok _ c, ?_⟩
      rw [isS_aln]
      refine split_ (fun h2 => ⟨_, fail9_ok b s 10, ?_⟩) fun h2 => ?_
      · simp only [Bool.and_eq_true, Bool.not_eq_true', decide_eq_false_iff_not] at h2
        rw [if_pos ⟨h2.1, by omega⟩]
      · have h2 : ¬ (alnB c.toNat = true ∧ c.toNat ≠ 110) := fun e => h2 (by
          simp only [Bool.and_eq_true, Bool.not_eq_true', decide_eq_false_iff_not]
          exact ⟨e.1, by omega⟩)
        rw [if_neg h2]
        refine split_ (fun h3 => ?_) fun h3 => ?_
        · rw [if_pos (by omega)]
          exact ⟨_, of_ok [10] (by simp), _, set9_ok b _ s 2 (s.p + 2) (by omega) (by omega), rfl⟩
        · rw [if_neg (by omega)]
          exact ⟨_, of_ok [c] (by simp), _, set9_ok b _ s 2 (s.p + 2) (by omega) (by omega), rfl⟩
end Go.Proofs.Ytfhakeapepafbaa
