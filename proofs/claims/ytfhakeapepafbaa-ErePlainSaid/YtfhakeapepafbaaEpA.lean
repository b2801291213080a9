/- Extended regular expressions: a parser's state, nodes put, numbers (taken over from the basic ones' texts). -/
import Derived.Test.YtfhakeapepafbaaTrQ
import Derived.Test.YtfhakeapepafbaaBrL
import Derived.Test.YtfhakeapepafbaaBrA
namespace Go.Proofs.Ytfhakeapepafbaa
/-- A parser's state: its tree's nodes, how many groups were begun, the place, which groups have ended. -/
structure Pz where
  L : List ND
  g : Nat
  p : Nat
  cl : Arr 10 Bool
def adv (s : Pz) (k : Nat) : Pz := { s with p := s.p + k }
def putS (n : ND) (s : Pz) : Int × Pz :=
  if 1000 ≤ s.L.length then (-1, s) else if isNodeB n s.L.length s.g = true then ((s.L.length : Int), { s with L := s.L ++ [n] }) else (-1, s)
def setN (S : SetT) : ND := (1, 0, 0, 0, 0, 0, S)
def hasS (b : List UInt8) (p : Nat) (l : List UInt8) : Bool := decide ((b.drop p).take l.length = l)
def foldS (kind : Int) : List Int → Int → Pz → Int × Pz
  | [], at_, s => (at_, s)
  | y :: t, at_, s => if at_ = -1 then (at_, s) else foldS kind t (putS (kind, at_, y, 0, 0, 0, setZ) s).1 (putS (kind, at_, y, 0, 0, 0, setZ) s).2
def catS : List Int → Pz → Int × Pz
  | [], s => putS (0, 0, 0, 0, 0, 0, setZ) s
  | x :: t, s => if x < 0 ∨ (s.L.length : Int) ≤ x then (-1, s) else foldS 2 t x s
theorem drop_g {α : Type} {l : List α} {k : Nat} {x : α} (h : l[k]? = some x) : l.drop k = x :: l.drop (k + 1) := by
  obtain ⟨h1, h2⟩ := List.getElem?_eq_some_iff.1 h
  rw [List.drop_eq_getElem_cons h1, h2]
theorem cat_cons (x : Int) (t : List Int) (s : Pz) : catS (x :: t) s = if x < 0 ∨ (s.L.length : Int) ≤ x then (-1, s) else foldS 2 t x s := rfl
theorem fold_cons (kind y : Int) (t : List Int) (at_ : Int) (s : Pz) : foldS kind (y :: t) at_ s = if at_ = -1 then (at_, s) else foldS kind t (putS (kind, at_, y, 0, 0, 0, setZ) s).1 (putS (kind, at_, y, 0, 0, 0, setZ) s).2 := rfl
/-- A number's digits: its value, how many there are, whether it is too great. -/
def numL : Int → Bool → List UInt8 → Int × Nat × Bool
  | n, gr, [] => (n, 0, gr)
  | n, gr, c :: t => if 48 ≤ c.toNat ∧ c.toNat ≤ 57 then
      ((numL (if (gr || decide ((255 - ((c.toNat : Int) - 48)).tdiv 10 < n)) = true then n else n * 10 + ((c.toNat : Int) - 48)) (gr || decide ((255 - ((c.toNat : Int) - 48)).tdiv 10 < n)) t).1,
        (numL (if (gr || decide ((255 - ((c.toNat : Int) - 48)).tdiv 10 < n)) = true then n else n * 10 + ((c.toNat : Int) - 48)) (gr || decide ((255 - ((c.toNat : Int) - 48)).tdiv 10 < n)) t).2.1 + 1,
        (numL (if (gr || decide ((255 - ((c.toNat : Int) - 48)).tdiv 10 < n)) = true then n else n * 10 + ((c.toNat : Int) - 48)) (gr || decide ((255 - ((c.toNat : Int) - 48)).tdiv 10 < n)) t).2.2)
    else (n, 0, gr)
def numR (b : List UInt8) (p : Nat) : Int × Int × Int :=
  if (numL 0 false (b.drop p)).2.1 = 0 then (0, 0, 9) else if (numL 0 false (b.drop p)).2.2 = true then (0, 0, 3) else ((numL 0 false (b.drop p)).1, ((p + (numL 0 false (b.drop p)).2.1 : Nat) : Int), 0)
theorem numL_cons (n : Int) (gr : Bool) (c : UInt8) (t : List UInt8) : numL n gr (c :: t) = if 48 ≤ c.toNat ∧ c.toNat ≤ 57 then
      ((numL (if (gr || decide ((255 - ((c.toNat : Int) - 48)).tdiv 10 < n)) = true then n else n * 10 + ((c.toNat : Int) - 48)) (gr || decide ((255 - ((c.toNat : Int) - 48)).tdiv 10 < n)) t).1,
        (numL (if (gr || decide ((255 - ((c.toNat : Int) - 48)).tdiv 10 < n)) = true then n else n * 10 + ((c.toNat : Int) - 48)) (gr || decide ((255 - ((c.toNat : Int) - 48)).tdiv 10 < n)) t).2.1 + 1,
        (numL (if (gr || decide ((255 - ((c.toNat : Int) - 48)).tdiv 10 < n)) = true then n else n * 10 + ((c.toNat : Int) - 48)) (gr || decide ((255 - ((c.toNat : Int) - 48)).tdiv 10 < n)) t).2.2)
    else (n, 0, gr) := rfl
theorem num_end {b : List UInt8} {p k : Nat} {n : Int} {gr : Bool} (h : (n, k, gr) = numL 0 false (b.drop p)) : digit_Num_j2 (p : Int) n ((p + k : Nat) : Int) gr (numR b p) := by
  unfold numR
  rw [← h]
  refine split_ (fun h1 => ?_) fun h1 => split_ (fun h2 => ?_) fun h2 => ?_
  · rw [if_pos (by show k = 0; omega)]
  · rw [if_neg (by show ¬ k = 0; omega), if_pos h2]
  · rw [if_neg (by show ¬ k = 0; omega), if_neg h2]
theorem num_ok (b : List UInt8) (p : Nat) (hb : b.length ≤ 1000) (hp : p ≤ b.length) : digit_Num_R b (p : Int) 255 (numR b p) := by
  unfold digit_Num_R digit_Num_j1
  refine split_ (fun h => ?_) fun _ => ?_
  · simp at h; omega
  refine loop_ (fun (st : Int × Int × Bool) m => ∃ (k : Nat) (n : Int) (gr : Bool), p + k ≤ b.length ∧ m = b.length - (p + k) ∧ st = (n, ((p + k : Nat) : Int), gr) ∧ 0 ≤ n ∧ n ≤ 255 ∧ ((numL n gr (b.drop (p + k))).1, (numL n gr (b.drop (p + k))).2.1 + k, (numL n gr (b.drop (p + k))).2.2) = numL 0 false (b.drop p)) (b.length - p) ⟨0, 0, false, by omega, rfl, rfl, by omega, by omega, rfl⟩ ?_
  rintro _ m ⟨k, n, gr, hk, rfl, rfl, hn0, hn1, he⟩
  show digit_Num_l3 b 255 (p : Int) _ n ((p + k : Nat) : Int) gr _
  refine split_ (fun h => ?_) fun h => ?_
  · obtain ⟨c, hc⟩ : ∃ c, b[p + k]? = some c := ⟨b[p + k]'(by omega), List.getElem?_eq_getElem (by omega)⟩
    rw [drop_at hc] at he
    have hcl := c.toNat_lt
    refine ⟨by omega, c, hc, _, (digit_iff c _).2 rfl, split_ (fun h1 => ?_) fun h1 => ?_⟩
    · have h1 := of_decide_eq_true h1
      rw [numL_cons, if_pos h1] at he
      refine ⟨by omega, c, hc, exU8 (by omega) fun d hd => ?_⟩
      have hd : (d.toNat : Int) = (c.toNat : Int) - 48 := hd
      have key : ∀ gr' : Bool, gr' = (gr || decide ((255 - ((c.toNat : Int) - 48)).tdiv 10 < n)) → digit_Num_j4 n d ((p + k : Nat) : Int) (fun s' => ∃ m', m' < b.length - (p + k) ∧ ∃ (k : Nat) (n : Int) (gr : Bool), p + k ≤ b.length ∧ m' = b.length - (p + k) ∧ s' = (n, ((p + k : Nat) : Int), gr) ∧ 0 ≤ n ∧ n ≤ 255 ∧ ((numL n gr (b.drop (p + k))).1, (numL n gr (b.drop (p + k))).2.1 + k, (numL n gr (b.drop (p + k))).2.2) = numL 0 false (b.drop p)) gr' (numR b p) := fun gr' hg => by
        rw [← hg] at he
        refine split_ (fun h2 => ?_) fun h2 => ?_
        · have hf : (gr || decide ((255 - ((c.toNat : Int) - 48)).tdiv 10 < n)) = false := by rw [← hg]; simpa using h2
          have hf := of_decide_eq_false (Bool.or_eq_false_iff.1 hf).2
          have hle : n * 10 + (d.toNat : Int) ≤ 255 := by
            rw [Int.tdiv_eq_ediv_of_nonneg (by omega)] at hf
            omega
          rw [if_neg h2, ← hd] at he
          refine inR_ (by omega) (inR_ (by omega) (inR_ (by omega) ⟨b.length - (p + (k + 1)), by omega, k + 1, _, gr', by omega, rfl, rfl, by omega, hle, ?_⟩))
          rw [← he]; simp only [Nat.add_assoc, Nat.add_comm 1 k]
        · rw [if_pos (Decidable.not_not.1 h2)] at he
          refine inR_ (by omega) ⟨b.length - (p + (k + 1)), by omega, k + 1, n, gr', by omega, rfl, rfl, hn0, hn1, ?_⟩
          rw [← he]; simp only [Nat.add_assoc, Nat.add_comm 1 k]
      refine split_ (fun h2 => ?_) fun h2 => ?_
      · exact key true (by rw [h2]; rfl)
      · refine inR_ (by omega) ⟨by decide, inR_ ?_ (key _ ?_)⟩
        · rw [Int.tdiv_eq_ediv_of_nonneg (by omega)]; omega
        · rw [show gr = false by simpa using h2, hd]
          rw [show decide ((255 : Int) < (c.toNat : Int) - 48) = false from decide_eq_false (by omega)]
          simp
    · have h1 : ¬ (48 ≤ c.toNat ∧ c.toNat ≤ 57) := fun h => h1 (decide_eq_true h)
      rw [numL_cons, if_neg h1] at he
      exact num_end (by rw [← he]; simp)
  · rw [List.drop_eq_nil_of_le (by omega)] at he
    exact num_end (by rw [← he]; simp [numL])
def alnB (n : Nat) : Bool := decide ((65 ≤ n ∧ n ≤ 90) ∨ (97 ≤ n ∧ n ≤ 122) ∨ (48 ≤ n ∧ n ≤ 57))
theorem put_st (n : ND) (s : Pz) : (putS n s).2.p = s.p ∧ (putS n s).2.g = s.g ∧ (putS n s).2.cl = s.cl := by
  unfold putS
  split
  · exact ⟨rfl, rfl, rfl⟩
  · split <;> exact ⟨rfl, rfl, rfl⟩
theorem fold_st (kind : Int) : ∀ (l : List Int) (x : Int) (s : Pz), (foldS kind l x s).2.p = s.p ∧ (foldS kind l x s).2.g = s.g ∧ (foldS kind l x s).2.cl = s.cl
  | [], x, s => ⟨rfl, rfl, rfl⟩
  | y :: t, x, s => by
    rw [fold_cons]
    split
    · exact ⟨rfl, rfl, rfl⟩
    · obtain ⟨h1, h2, h3⟩ := fold_st kind t (putS (kind, x, y, 0, 0, 0, setZ) s).1 (putS (kind, x, y, 0, 0, 0, setZ) s).2
      obtain ⟨k1, k2, k3⟩ := put_st (kind, x, y, 0, 0, 0, setZ) s
      exact ⟨h1.trans k1, h2.trans k2, h3.trans k3⟩
theorem cat_st (l : List Int) (s : Pz) : (catS l s).2.p = s.p ∧ (catS l s).2.g = s.g ∧ (catS l s).2.cl = s.cl := by
  cases l with
  | nil => exact put_st _ s
  | cons x t =>
    rw [cat_cons]
    split
    · exact ⟨rfl, rfl, rfl⟩
    · exact fold_st 2 t x s
theorem numL_len : ∀ (l : List UInt8) (n : Int) (gr : Bool), (numL n gr l).2.1 ≤ l.length
  | [], _, _ => Nat.le_refl _
  | c :: t, n, gr => by
    rw [numL_cons]
    split
    · exact Nat.succ_le_succ (numL_len t _ _)
    · exact Nat.zero_le _
theorem num_next {b : List UInt8} {p : Nat} (h : (numR b p).2.2 = 0) (hp : p ≤ b.length) : ∃ q : Nat, (numR b p).2.1 = (q : Int) ∧ p + 1 ≤ q ∧ q ≤ b.length := by
  have := numL_len (b.drop p) 0 false
  rw [List.length_drop] at this
  unfold numR at h ⊢
  split at h
  · cases h
  · rename_i h1
    split at h
    · cases h
    · rename_i h2
      rw [if_neg h1, if_neg h2]
      exact ⟨_, rfl, by omega, by omega⟩
theorem parse_next {b : List UInt8} {p : Nat} (h : (parseR b p).2.2 = 0) (hp : p ≤ b.length) : ∃ q : Nat, (parseR b p).2.1 = (q : Int) ∧ p + 1 ≤ q ∧ q ≤ b.length := by
  have key : ∀ (no : Bool) (a : Nat), a ≤ b.length → p ≤ a → (endR no a (loopT ((b.drop a).length + 1) true (b.drop a) z4 0)).2.2 = 0 → ∃ q : Nat, (endR no a (loopT ((b.drop a).length + 1) true (b.drop a) z4 0)).2.1 = (q : Int) ∧ p + 1 ≤ q ∧ q ≤ b.length := fun no a ha hpa h => by
    cases hl : loopT ((b.drop a).length + 1) true (b.drop a) z4 0 with
    | error e =>
      rw [hl] at h
      exact absurd h (loop_err _ _ _ _ _ _ hl)
    | ok x =>
      obtain ⟨S, L⟩ := x
      obtain ⟨h1, h2, _⟩ := loop_local (b.drop a) S L hl
      rw [List.length_drop] at h2
      exact ⟨a + L, rfl, by omega, by omega⟩
  unfold parseR at h ⊢
  split at h
  · rename_i h1
    rw [if_pos h1]
    refine key true (p + 1) ?_ (by omega) h
    cases hd : b.drop p with
    | nil => rw [hd] at h1; cases h1
    | cons x t => have := congrArg List.length hd; rw [List.length_drop] at this; simp at this; omega
  · rename_i h1
    rw [if_neg h1]
    exact key false p hp (by omega) h
theorem in64 {z : Int} (h0 : 0 ≤ z) (h1 : z ≤ 1000000) : InR z := ⟨by omega, by omega⟩
theorem isS_aln (n : Nat) : isS (⟨#[97, 108, 110, 117, 109]⟩ : ByteArray) n = (alnB n, true) := by
  unfold isS alnB
  simp [ByteArray.toList_eq]
set_option synthInstance.maxSize 4000 in
theorem node_mono {x : ND} {a : Int} {g g' : Int} (h : isNodeB x a g = true) (hg : g ≤ g') : isNodeB x a g' = true := by
  unfold isNodeB at h ⊢
  simp only [Bool.and_eq_true, Bool.or_eq_true, decide_eq_true_eq, Bool.not_eq_true', decide_eq_false_iff_not] at h ⊢
  refine ⟨h.1, h.2.imp_right fun hh => ⟨hh.1, by omega⟩⟩
/-- Nodes that were put behind others, each used once but for some; groups that were begun, each once. -/
def Gr (L : List ND) (g : Nat) (L' : List ND) (g' : Nat) (R : List Int) : Prop :=
  ∃ N, L' = L ++ N ∧ g ≤ g' ∧ (∀ z : Int, (usesL N).count z + R.count z = if (L.length : Int) ≤ z ∧ z < ((L.length + N.length : Nat) : Int) then 1 else 0)
    ∧ (∀ z : Int, (grpL N).count z = if (g : Int) < z ∧ z ≤ (g' : Int) then 1 else 0) ∧ (∀ i x, N[i]? = some x → isNodeB x ((L.length + i : Nat) : Int) (g' : Int) = true) ∧ L'.length ≤ 1000
theorem gr_refl (L : List ND) (g : Nat) (h : L.length ≤ 1000) : Gr L g L g [] :=
  ⟨[], by simp, Nat.le_refl _, fun z => by simp [usesL], fun z => by simp [grpL], fun i x hx => by simp at hx, h⟩
theorem uses_app (M N : List ND) : usesL (M ++ N) = usesL M ++ usesL N := List.flatMap_append
theorem grp_app (M N : List ND) : grpL (M ++ N) = grpL M ++ grpL N := List.flatMap_append
theorem gr_trans {L L' L'' : List ND} {g g' g'' : Nat} {R R' : List Int} (h : Gr L g L' g' R) (k : Gr L' g' L'' g'' R') : Gr L g L'' g'' (R ++ R') := by
  obtain ⟨N, rfl, a1, a2, a3, a4, a5⟩ := h
  obtain ⟨M, rfl, b1, b2, b3, b4, b5⟩ := k
  refine ⟨N ++ M, by rw [List.append_assoc], Nat.le_trans a1 b1, fun z => ?_, fun z => ?_, fun i x hx => ?_, b5⟩
  · have h1 := a2 z
    have h2 := b2 z
    rw [uses_app, List.count_append, List.count_append]
    rw [List.length_append] at h2 ⊢
    split at h1 <;> split at h2 <;> split <;> omega
  · have h1 := a3 z
    have h2 := b3 z
    rw [grp_app, List.count_append]
    split at h1 <;> split at h2 <;> split <;> omega
  · rw [List.getElem?_append] at hx
    split at hx
    · exact node_mono (a4 i x hx) (by omega)
    · rename_i hi
      have := b4 _ x hx
      rw [List.length_append] at this
      rwa [show L.length + N.length + (i - N.length) = L.length + i by omega] at this
theorem put_pos {n : ND} {s : Pz} (h : 0 ≤ (putS n s).1) : s.L.length < 1000 ∧ isNodeB n s.L.length s.g = true ∧ putS n s = ((s.L.length : Int), { s with L := s.L ++ [n] }) := by
  unfold putS at h ⊢
  split at h
  · exact absurd h (by show ¬ (0 : Int) ≤ -1; decide)
  · rename_i h1
    split at h
    · rename_i h2
      rw [if_neg h1, if_pos h2]
      exact ⟨by omega, h2, rfl⟩
    · exact absurd h (by show ¬ (0 : Int) ≤ -1; decide)
theorem put_neg {n : ND} {s : Pz} (h : ¬ 0 ≤ (putS n s).1) : putS n s = (-1, s) := by
  unfold putS at h ⊢
  split at h
  · rename_i h1; rw [if_pos h1]
  · rename_i h1
    split at h
    · exact absurd (by show (0 : Int) ≤ (s.L.length : Int); omega) h
    · rename_i h2; rw [if_neg h1, if_neg h2]
theorem gr_put {L : List ND} {g : Nat} {n : ND} {s : Pz} {R R' : List Int} (h : Gr L g s.L s.g R') (hp : 0 ≤ (putS n s).1) (hn : n.1 ≠ 5) (hR : ∀ z, R'.count z = (partsL n).count z + R.count z) :
    Gr L g (putS n s).2.L (putS n s).2.g ((putS n s).1 :: R) := by
  obtain ⟨p1, p2, p3⟩ := put_pos hp
  rw [p3]
  obtain ⟨N, hL, a1, a2, a3, a4, a5⟩ := h
  have hlen : s.L.length = L.length + N.length := by rw [hL, List.length_append]
  refine ⟨N ++ [n], by show s.L ++ [n] = _; rw [hL, List.append_assoc], a1, fun z => ?_, fun z => ?_, fun i x hx => ?_, by show (s.L ++ [n]).length ≤ _; rw [List.length_append]; simp; omega⟩
  · have h1 := a2 z
    have h2 := hR z
    rw [uses_app, List.count_append, show usesL [n] = partsL n by simp [usesL], List.length_append, List.count_cons]
    show _ + _ + (_ + if ((s.L.length : Int) == z) = true then 1 else 0) = _
    simp only [beq_iff_eq, List.length_singleton]
    split at h1 <;> split <;> split <;> omega
  · rw [grp_app, List.count_append, show grpL [n] = [] by simp [grpL, hn]]
    exact a3 z
  · rw [List.getElem?_append] at hx
    split at hx
    · exact a4 i x hx
    · rename_i hi
      rw [List.getElem?_singleton] at hx
      split at hx
      · injection hx with hx
        subst hx
        rw [← show s.L.length = L.length + i by omega]; exact p2
      · cases hx
theorem gr_group {L : List ND} {g : Nat} {k : Int} {s : Pz} (h : Gr L (g + 1) s.L s.g [k]) (hp : 0 ≤ (putS (5, k, 0, 0, 0, ((g + 1 : Nat) : Int), setZ) s).1) :
    Gr L g (putS (5, k, 0, 0, 0, ((g + 1 : Nat) : Int), setZ) s).2.L (putS (5, k, 0, 0, 0, ((g + 1 : Nat) : Int), setZ) s).2.g [(putS (5, k, 0, 0, 0, ((g + 1 : Nat) : Int), setZ) s).1] := by
  obtain ⟨p1, p2, p3⟩ := put_pos hp
  rw [p3]
  generalize hnn : ((5, k, 0, 0, 0, ((g + 1 : Nat) : Int), setZ) : ND) = n at *
  have hpt : partsL n = [k] := by rw [← hnn]; rfl
  have hgr : grpL [n] = [((g + 1 : Nat) : Int)] := by rw [← hnn]; rfl
  obtain ⟨N, hL, a1, a2, a3, a4, a5⟩ := h
  have hlen : s.L.length = L.length + N.length := by rw [hL, List.length_append]
  refine ⟨N ++ [n], by show s.L ++ [n] = _; rw [hL, List.append_assoc], by show g ≤ s.g; omega, fun z => ?_, fun z => ?_, fun i x hx => ?_, by show (s.L ++ [n]).length ≤ _; rw [List.length_append]; simp; omega⟩
  · have h1 := a2 z
    rw [uses_app, List.count_append, show usesL [n] = partsL n by simp [usesL], hpt, List.length_append, List.count_cons (b := (s.L.length : Int))]
    simp only [beq_iff_eq, List.length_singleton, List.count_nil]
    split at h1 <;> split <;> split <;> omega
  · have h1 := a3 z
    rw [grp_app, List.count_append, hgr, List.count_singleton]
    show _ = if (g : Int) < z ∧ z ≤ (s.g : Int) then 1 else 0
    simp only [beq_iff_eq]
    split at h1 <;> split <;> split <;> omega
  · rw [List.getElem?_append] at hx
    split at hx
    · exact a4 i x hx
    · rename_i hi
      rw [List.getElem?_singleton] at hx
      split at hx
      · injection hx with hx
        subst hx
        rw [← show s.L.length = L.length + i by omega]; exact p2
      · cases hx
theorem fold_m1 (kind : Int) (t : List Int) (s : Pz) : (foldS kind t (-1) s).1 = -1 := by
  cases t with
  | nil => rfl
  | cons y t => rw [fold_cons, if_pos rfl]
theorem gr_fold {L : List ND} {g : Nat} {kind : Int} (hkd : kind = 2 ∨ kind = 3) : ∀ (t : List Int) (x : Int) (s : Pz), Gr L g s.L s.g (x :: t) → 0 ≤ x → 0 ≤ (foldS kind t x s).1 → Gr L g (foldS kind t x s).2.L (foldS kind t x s).2.g [(foldS kind t x s).1]
  | [], x, s, h, _, _ => h
  | y :: t, x, s, h, hx, hr => by
    rw [fold_cons, if_neg (by omega)] at hr ⊢
    by_cases hp : 0 ≤ (putS (kind, x, y, 0, 0, 0, setZ) s).1
    · exact gr_fold hkd t _ _ (gr_put h hp (by show kind ≠ 5; omega) fun z => by
        have e : partsL (kind, x, y, 0, 0, 0, setZ) = [x, y] := by rcases hkd with rfl | rfl <;> rfl
        rw [e]; rw [show x :: y :: t = [x, y] ++ t from rfl, List.count_append]) hp hr
    · rw [put_neg hp, fold_m1] at hr
      exact absurd hr (by decide)
theorem gr_cat {L : List ND} {g : Nat} {l : List Int} {s : Pz} (h : Gr L g s.L s.g l) (hr : 0 ≤ (catS l s).1) : Gr L g (catS l s).2.L (catS l s).2.g [(catS l s).1] := by
  cases l with
  | nil => exact gr_put (n := (0, 0, 0, 0, 0, 0, setZ)) h hr (by decide) fun z => rfl
  | cons x t =>
    rw [cat_cons] at hr ⊢
    split at hr
    · exact absurd hr (by show ¬ (0 : Int) ≤ -1; decide)
    · rename_i h1
      rw [if_neg h1]
      exact gr_fold (.inl rfl) t x s h (by omega) hr
theorem gr_leaf {L : List ND} {g : Nat} {n : ND} {s : Pz} {R : List Int} (h : Gr L g s.L s.g R) (hp : 0 ≤ (putS n s).1) (hn : n.1 ≠ 5) (hl : partsL n = []) : Gr L g (putS n s).2.L (putS n s).2.g (R ++ [(putS n s).1]) := by
  have := gr_put (R := R) h hp hn fun z => by rw [hl]; simp
  obtain ⟨N, a0, a1, a2, a3, a4, a5⟩ := this
  exact ⟨N, a0, a1, fun z => by rw [← a2 z, List.count_append, List.count_cons, List.count_cons, List.count_nil]; omega, a3, a4, a5⟩
theorem gr_right {L : List ND} {g : Nat} {k : Int} (h : Gr [] 0 L g [k]) (hg : g ≤ 9) : rightB L g = true ∧ k = (L.length : Int) - 1 ∧ 1 ≤ L.length ∧ L.length ≤ 1000 := by
  obtain ⟨N, hL, a1, a2, a3, a4, a5⟩ := h
  rw [List.nil_append] at hL
  subst hL
  simp only [List.length_nil, Nat.zero_add] at a2 a4
  have hk := a2 k
  rw [List.count_singleton_self] at hk
  have hk1 : 0 ≤ k ∧ k < (L.length : Int) := by split at hk <;> omega
  have hlast : (usesL L).count ((L.length : Int) - 1) = 0 := by
    refine List.count_eq_zero.2 fun hm => ?_
    obtain ⟨x, hx, hxm⟩ := List.mem_flatMap.1 hm
    obtain ⟨i, hi⟩ := List.mem_iff_getElem?.1 hx
    have := (node_parts (a4 i x hi)).1 _ hxm
    have := (List.getElem?_eq_some_iff.1 hi).1
    omega
  have hkl : k = (L.length : Int) - 1 := by
    have h1 := a2 ((L.length : Int) - 1)
    rw [hlast, if_pos (by omega), List.count_singleton] at h1
    simp only [beq_iff_eq] at h1
    split at h1 <;> omega
  refine ⟨?_, hkl, by omega, a5⟩
  unfold rightB
  simp only [Bool.and_eq_true, decide_eq_true_eq, List.all_eq_true, List.mem_range]
  refine ⟨⟨⟨⟨⟨⟨by omega, a5⟩, by omega⟩, by omega⟩, nodes_all a4⟩, fun j hj => ?_⟩, fun j hj => ?_⟩
  · have h1 := a2 (j : Int)
    rw [if_pos (by omega), List.count_singleton] at h1
    simp only [beq_iff_eq] at h1
    split at h1 <;> omega
  · have h1 := a3 ((j : Int) + 1)
    rw [if_pos (by omega)] at h1
    exact h1
def pz0 : Pz := ⟨[], 0, 0, Arr.rep 10 false⟩
theorem clone_ok (l : List ND) (hl : l.length ≤ 100000) : slices_Clone_R l l := by
  intro b hb
  refine split_ (fun h => ?_) fun _ => room_ (by simp; omega) (by omega) rfl
  by_cases hl0 : l = []
  · exact hl0
  · rw [hb hl0] at h; cases h
theorem node_set (S : SetT) (a g : Int) : isNodeB (setN S) a g = true := by simp [isNodeB, plainL, partsL, setN]
theorem node_cat {x y a : Int} (g : Int) (hx : 0 ≤ x ∧ x < a) (hy : 0 ≤ y ∧ y < a) : isNodeB (2, x, y, 0, 0, 0, setZ) a g = true := by
  simp [isNodeB, plainL, partsL]; omega
theorem put_yes {n : ND} {s : Pz} (h : s.L.length < 1000) (hn : isNodeB n s.L.length s.g = true) : putS n s = ((s.L.length : Int), { s with L := s.L ++ [n] }) := by
  unfold putS; rw [if_neg (by omega), if_pos hn]
end Go.Proofs.Ytfhakeapepafbaa
