/- Basic regular expressions: what the parser's functions compute, in plain terms. -/
import Derived.Test.YtpddiffpanihdaaTrQ
import Derived.Test.YtpddiffpanihdaaBrL
namespace Go.Proofs.Ytpddiffpanihdaa
abbrev PS := (List ND × Int) × List UInt8 × Int × Arr 10 Bool
abbrev RS := Int × List (Int × Int) × PS
/-- A parser's state: its tree's nodes, how many groups were begun, the place, which groups have ended. -/
structure Pz where
  L : List ND
  g : Nat
  p : Nat
  cl : Arr 10 Bool
def Pz.ps (b : List UInt8) (s : Pz) : PS := ((s.L, (s.g : Int)), b, (s.p : Int), s.cl)
abbrev Res := Int × List (Int × Int) × Pz
def rs (b : List UInt8) (r : Res) : RS := (r.1, r.2.1, r.2.2.ps b)
def adv (s : Pz) (k : Nat) : Pz := { s with p := s.p + k }
def putS (n : ND) (s : Pz) : Int × Pz :=
  if 1000 ≤ s.L.length then (-1, s) else if isNodeB n s.L.length s.g = true then ((s.L.length : Int), { s with L := s.L ++ [n] }) else (-1, s)
def okR (x : Int × Pz) : Res := (x.1, [], x.2)
def noR (s : Pz) (e : Int) : Res := (0, [((s.p : Int), e)], s)
def setN (S : SetT) : ND := (1, 0, 0, 0, 0, 0, S)
def oneR (c : UInt8) (s : Pz) : Res := okR (putS (setN (ofS [c])) (adv s 1))
def hasS (b : List UInt8) (p : Nat) (l : List UInt8) : Bool := decide ((b.drop p).take l.length = l)
def foldS (kind : Int) : List Int → Int → Pz → Int × Pz
  | [], at_, s => (at_, s)
  | y :: t, at_, s => if at_ = -1 then (at_, s) else foldS kind t (putS (kind, at_, y, 0, 0, 0, setZ) s).1 (putS (kind, at_, y, 0, 0, 0, setZ) s).2
def catS : List Int → Pz → Int × Pz
  | [], s => putS (0, 0, 0, 0, 0, 0, setZ) s
  | x :: t, s => if x < 0 ∨ (s.L.length : Int) ≤ x then (-1, s) else foldS 2 t x s
theorem put_ok (b : List UInt8) (n : ND) (s : Pz) : tree_Builder_put_R (s.ps b) n ((putS n s).1, (putS n s).2.ps b) := by
  unfold putS
  refine split_ (fun h => ?_) fun h => ?_
  · have h : (1000 : Int) ≤ (s.L.length : Int) := h
    rw [if_pos (by omega)]
  · have h : ¬ (1000 : Int) ≤ (s.L.length : Int) := h
    rw [if_neg (by omega)]
    refine ⟨_, isNode_ok n s.L.length s.g, split_ (fun h1 => ?_) fun h1 => ?_⟩
    · rw [if_neg h1]
    · have h1 := Decidable.not_not.1 h1
      rw [if_pos h1]
      refine room_ (by show s.L.length + 1 ≤ _; omega) (by omega) (inR_ ?_ ?_)
      · show -9223372036854775808 ≤ ((s.L ++ [n]).length : Int) - 1 ∧ ((s.L ++ [n]).length : Int) - 1 ≤ 9223372036854775807
        simp; omega
      · have : ((s.L ++ [n]).length : Int) - 1 = (s.L.length : Int) := by simp
        show _ = (((s.L ++ [n]).length : Int) - 1, _)
        rw [this]; rfl
theorem bol_ok (b : List UInt8) (s : Pz) : tree_Builder_Bol_R (s.ps b) ((putS (7, 0, 0, 0, 0, 0, setZ) s).1, (putS (7, 0, 0, 0, 0, 0, setZ) s).2.ps b) := ⟨_, put_ok b _ s, rfl⟩
theorem eol_ok (b : List UInt8) (s : Pz) : tree_Builder_Eol_R (s.ps b) ((putS (8, 0, 0, 0, 0, 0, setZ) s).1, (putS (8, 0, 0, 0, 0, 0, setZ) s).2.ps b) := ⟨_, put_ok b _ s, rfl⟩
theorem set_ok (b : List UInt8) (S : SetT) (s : Pz) : tree_Builder_Set_R (s.ps b) S ((putS (setN S) s).1, (putS (setN S) s).2.ps b) := ⟨_, put_ok b _ s, rfl⟩
theorem rep_ok (b : List UInt8) (a lo hi : Int) (s : Pz) : tree_Builder_Rep_R (s.ps b) a lo hi ((putS (4, a, 0, lo, hi, 0, setZ) s).1, (putS (4, a, 0, lo, hi, 0, setZ) s).2.ps b) := ⟨_, put_ok b _ s, rfl⟩
theorem back_ok (b : List UInt8) (g : Int) (s : Pz) : tree_Builder_Back_R (s.ps b) g ((putS (6, 0, 0, 0, 0, g, setZ) s).1, (putS (6, 0, 0, 0, 0, g, setZ) s).2.ps b) := ⟨_, put_ok b _ s, rfl⟩
theorem group_ok (b : List UInt8) (g a : Int) (s : Pz) : tree_Builder_Group_R (s.ps b) g a ((putS (5, a, 0, 0, 0, g, setZ) s).1, (putS (5, a, 0, 0, 0, g, setZ) s).2.ps b) := ⟨_, put_ok b _ s, rfl⟩
theorem one_ok (b : List UInt8) (c : UInt8) (s : Pz) (hp : s.p ≤ 100000) : bre_parser_one_R (s.ps b) c ((oneR c s).1, (oneR c s).2.2.ps b) :=
  inR_ (by show -9223372036854775808 ≤ (s.p : Int) + 1 ∧ (s.p : Int) + 1 ≤ 9223372036854775807; omega) ⟨_, of_ok [c] (by simp), _, set_ok b _ (adv s 1), rfl⟩
theorem drop_g {α : Type} {l : List α} {k : Nat} {x : α} (h : l[k]? = some x) : l.drop k = x :: l.drop (k + 1) := by
  obtain ⟨h1, h2⟩ := List.getElem?_eq_some_iff.1 h
  rw [List.drop_eq_getElem_cons h1, h2]
theorem cat_cons (x : Int) (t : List Int) (s : Pz) : catS (x :: t) s = if x < 0 ∨ (s.L.length : Int) ≤ x then (-1, s) else foldS 2 t x s := rfl
theorem fold_cons (kind y : Int) (t : List Int) (at_ : Int) (s : Pz) : foldS kind (y :: t) at_ s = if at_ = -1 then (at_, s) else foldS kind t (putS (kind, at_, y, 0, 0, 0, setZ) s).1 (putS (kind, at_, y, 0, 0, 0, setZ) s).2 := rfl
theorem fold_ok (b : List UInt8) (kind : Int) (x : Int) (t : List Int) (s : Pz) (ht : t.length ≤ 100000) : ¬ (x < 0) → ¬ ((s.L.length : Int) ≤ x) →
    tree_Builder_fold_R (s.ps b) kind (x :: t) ((foldS kind t x s).1, (foldS kind t x s).2.ps b) := fun h0 h1 => by
  refine ⟨by decide, x, rfl, split_ (fun h => absurd h h0) fun _ => ⟨by decide, x, rfl, split_ (fun h => absurd h h1) fun _ => ⟨by decide, x, rfl, ⟨by decide, by show (1 : Int) ≤ ((t.length + 1 : Nat) : Int); omega⟩, ?_⟩⟩⟩
  refine loop_ (fun (st : Int × Int × List ND × Int × List UInt8 × Int × Arr 10 Bool) m => ∃ (k : Nat) (at_ : Int) (s' : Pz), k ≤ t.length ∧ m = t.length - k ∧ st = (at_, (k : Int), s'.L, (s'.g : Int), b, (s'.p : Int), s'.cl) ∧ foldS kind (t.drop k) at_ s' = foldS kind t x s) t.length ⟨0, x, s, by omega, rfl, rfl, rfl⟩ ?_
  rintro _ m ⟨k, at_, s', hk, rfl, rfl, he⟩
  show tree_Builder_fold_l1 (x :: t) kind _ at_ (k : Int) s'.L (s'.g : Int) b (s'.p : Int) s'.cl _
  refine split_ (fun h => ?_) fun h => ?_
  · have h : (k : Int) < (t.length : Int) := h
    obtain ⟨y, hy⟩ : ∃ y, t[k]? = some y := ⟨t[k]'(by omega), List.getElem?_eq_getElem (by omega)⟩
    have hd : t.drop k = y :: t.drop (k + 1) := drop_g hy
    rw [hd] at he
    refine ⟨by omega, y, hy, split_ (fun h2 => ?_) fun h2 => ?_⟩
    · rw [← he, fold_cons, if_pos h2]; rfl
    · rw [fold_cons, if_neg h2] at he
      refine ⟨_, put_ok b _ s', inR_ (by omega) ⟨t.length - (k + 1), by omega, k + 1, _, (putS (kind, at_, y, 0, 0, 0, setZ) s').2, by omega, rfl, rfl, he⟩⟩
  · have h : ¬ (k : Int) < (t.length : Int) := h
    obtain rfl : k = t.length := by omega
    rw [List.drop_length] at he
    rw [← he]; rfl
theorem cat_ok (b : List UInt8) (l : List Int) (s : Pz) (hl : l.length ≤ 100000) : tree_Builder_Cat_R (s.ps b) l ((catS l s).1, (catS l s).2.ps b) := by
  cases l with
  | nil => exact split_ (fun _ => ⟨_, ⟨_, put_ok b _ s, rfl⟩, rfl⟩) fun h => absurd rfl h
  | cons x t =>
    refine split_ (fun h => absurd h (by simp; omega)) fun _ => ?_
    rw [cat_cons]
    by_cases h0 : x < 0
    · rw [if_pos (.inl h0)]
      exact ⟨_, ⟨by decide, x, rfl, split_ (fun _ => rfl) fun h => absurd h0 h⟩, rfl⟩
    · by_cases h1 : (s.L.length : Int) ≤ x
      · rw [if_pos (.inr h1)]
        exact ⟨_, ⟨by decide, x, rfl, split_ (fun h => absurd h h0) fun _ => ⟨by decide, x, rfl, split_ (fun _ => rfl) fun h => absurd h1 h⟩⟩, rfl⟩
      · rw [if_neg (by omega)]
        exact ⟨_, fold_ok b 2 x t s (by simp at hl; omega) h0 h1, rfl⟩
theorem ba_list (l : List UInt8) : (⟨l.toArray⟩ : ByteArray).toList = l := by rw [ByteArray.toList_eq]
theorem has_ok (b : List UInt8) (s : Pz) (l : List UInt8) (hb : b.length ≤ 1000) (hp : s.p ≤ b.length) (hl : l.length ≤ 100) : bre_parser_has_R (s.ps b) ⟨l.toArray⟩ (hasS b s.p l) := by
  have hsz : (((⟨l.toArray⟩ : ByteArray).size : Nat) : Int) = (l.length : Int) := rfl
  unfold bre_parser_has_R
  rw [hsz]
  refine inR_ (by show -9223372036854775808 ≤ (b.length : Int) - (s.p : Int) ∧ (b.length : Int) - (s.p : Int) ≤ 9223372036854775807; omega) (split_ (fun h => ?_) fun h => ?_)
  · have h : (l.length : Int) ≤ (b.length : Int) - (s.p : Int) := h
    refine inR_ (by show -9223372036854775808 ≤ (s.p : Int) + (l.length : Int) ∧ (s.p : Int) + (l.length : Int) ≤ 9223372036854775807; omega) ⟨⟨by show (0 : Int) ≤ (s.p : Int); omega, by show (s.p : Int) ≤ (s.p : Int) + (l.length : Int); omega, by show (s.p : Int) + (l.length : Int) ≤ (b.length : Int); omega⟩, ?_⟩
    have e1 : ((b.take ((s.p : Int) + (l.length : Int)).toNat).drop ((s.p : Int)).toNat) = (b.drop s.p).take l.length := by
      rw [show ((s.p : Int) + (l.length : Int)).toNat = s.p + l.length by omega, show ((s.p : Int)).toNat = s.p by omega, List.drop_take]
      congr 1; omega
    show hasS b s.p l = ((⟨((b.take ((s.p : Int) + (l.length : Int)).toNat).drop ((s.p : Int)).toNat).toArray⟩ : ByteArray).toList == (⟨l.toArray⟩ : ByteArray).toList)
    rw [e1, ba_list, ba_list]
    unfold hasS
    by_cases hx : (b.drop s.p).take l.length = l
    · rw [decide_eq_true hx, hx]; simp
    · rw [decide_eq_false hx]
      exact (beq_eq_false_iff_ne.2 hx).symm
  · have h : ¬ (l.length : Int) ≤ (b.length : Int) - (s.p : Int) := h
    refine decide_eq_false (fun h2 => ?_)
    have := congrArg List.length h2
    rw [List.length_take, List.length_drop] at this
    omega
/-- A number's digits: its value, how many there are, whether it is too great. -/
def numL : Int → Bool → List UInt8 → Int × Nat × Bool
  | n, gr, [] => (n, 0, gr)
  | n, gr, c :: t => if 48 ≤ c.toNat ∧ c.toNat ≤ 57 then
      ((numL (if (gr || decide ((255 - ((c.toNat : Int) - 48)).tdiv 10 < n)) = true then n else n * 10 + ((c.toNat : Int) - 48)) (gr || decide ((255 - ((c.toNat : Int) - 48)).tdiv 10 < n)) t).1,
        (numL (if (gr || decide ((255 - ((c.toNat : Int) - 48)).tdiv 10 < n)) = true then n else n * 10 + ((c.toNat : Int) - 48)) (gr || decide ((255 - ((c.toNat : Int) - 48)).tdiv 10 < n)) t).2.1 + 1,
        (numL (if (gr || decide ((255 - ((c.toNat : Int) - 48)).tdiv 10 < n)) = true then n else n * 10 + ((c.toNat : Int) - 48)) (gr || decide ((255 - ((c.toNat : Int) - 48)).tdiv 10 < n)) t).2.2)
    else (n, 0, gr)
def numR (b : List UInt8) (p : Nat) : Int × Int × Int :=
  if (numL 0 false (b.drop p)).2.1 = 0 then (0, 0, 9) else if (numL 0 false (b.drop p)).2.2 = true then (0, 0, 3) else ((numL 0 false (b.drop p)).1, ((p + (numL 0 false (b.drop p)).2.1 : Nat) : Int), 0)
theorem numL_cons (n : Int) (gr : Bool) (c : UInt8) (t : List UInt8) : numL n gr (c :: t) = if 48 ≤ c.toNat ∧ c.toNat ≤ 57 then
      ((numL (if (gr || decide ((255 - ((c.toNat : Int) - 48)).tdiv 10 < n)) = true then n else n * 10 + ((c.toNat : Int) - 48)) (gr || decide ((255 - ((c.toNat : Int) - 48)).tdiv 10 < n)) t).1,
        (numL (if (gr || decide ((255 - ((c.toNat : Int) - 48)).tdiv 10 < n)) = true then n else n * 10 + ((c.toNat : Int) - 48)) (gr || decide ((255 - ((c.toNat : Int) - 48)).tdiv 10 < n)) t).2.1 + 1,
        (numL (if (gr || decide ((255 - ((c.toNat : Int) - 48)).tdiv 10 < n)) = true then n else n * 10 + ((c.toNat : Int) - 48)) (gr || decide ((255 - ((c.toNat : Int) - 48)).tdiv 10 < n)) t).2.2)
    else (n, 0, gr) := rfl
theorem num_end {b : List UInt8} {p k : Nat} {n : Int} {gr : Bool} (h : (n, k, gr) = numL 0 false (b.drop p)) : digit_Num_j2 (p : Int) n ((p + k : Nat) : Int) gr (numR b p) := by
  unfold numR
  rw [← h]
  refine split_ (fun h1 => ?_) fun h1 => split_ (fun h2 => ?_) fun h2 => ?_
  · rw [if_pos (by show k = 0; omega)]
  · rw [if_neg (by show ¬ k = 0; omega), if_pos h2]
  · rw [if_neg (by show ¬ k = 0; omega), if_neg h2]
theorem num_ok (b : List UInt8) (p : Nat) (hb : b.length ≤ 1000) (hp : p ≤ b.length) : digit_Num_R b (p : Int) 255 (numR b p) := by
  unfold digit_Num_R digit_Num_j1
  refine split_ (fun h => ?_) fun _ => ?_
  · simp at h; omega
  refine loop_ (fun (st : Int × Int × Bool) m => ∃ (k : Nat) (n : Int) (gr : Bool), p + k ≤ b.length ∧ m = b.length - (p + k) ∧ st = (n, ((p + k : Nat) : Int), gr) ∧ 0 ≤ n ∧ n ≤ 255 ∧ ((numL n gr (b.drop (p + k))).1, (numL n gr (b.drop (p + k))).2.1 + k, (numL n gr (b.drop (p + k))).2.2) = numL 0 false (b.drop p)) (b.length - p) ⟨0, 0, false, by omega, rfl, rfl, by omega, by omega, rfl⟩ ?_
  rintro _ m ⟨k, n, gr, hk, rfl, rfl, hn0, hn1, he⟩
  show digit_Num_l3 b 255 (p : Int) _ n ((p + k : Nat) : Int) gr _
  refine split_ (fun h => ?_) fun h => ?_
  · obtain ⟨c, hc⟩ : ∃ c, b[p + k]? = some c := ⟨b[p + k]'(by omega), List.getElem?_eq_getElem (by omega)⟩
    rw [drop_at hc] at he
    have hcl := c.toNat_lt
    refine ⟨by omega, c, hc, _, (digit_iff c _).2 rfl, split_ (fun h1 => ?_) fun h1 => ?_⟩
    · have h1 := of_decide_eq_true h1
      rw [numL_cons, if_pos h1] at he
      refine ⟨by omega, c, hc, exU8 (by omega) fun d hd => ?_⟩
      have hd : (d.toNat : Int) = (c.toNat : Int) - 48 := hd
      have key : ∀ gr' : Bool, gr' = (gr || decide ((255 - ((c.toNat : Int) - 48)).tdiv 10 < n)) → digit_Num_j4 n d ((p + k : Nat) : Int) (fun s' => ∃ m', m' < b.length - (p + k) ∧ ∃ (k : Nat) (n : Int) (gr : Bool), p + k ≤ b.length ∧ m' = b.length - (p + k) ∧ s' = (n, ((p + k : Nat) : Int), gr) ∧ 0 ≤ n ∧ n ≤ 255 ∧ ((numL n gr (b.drop (p + k))).1, (numL n gr (b.drop (p + k))).2.1 + k, (numL n gr (b.drop (p + k))).2.2) = numL 0 false (b.drop p)) gr' (numR b p) := fun gr' hg => by
        rw [← hg] at he
        refine split_ (fun h2 => ?_) fun h2 => ?_
        · have hf : (gr || decide ((255 - ((c.toNat : Int) - 48)).tdiv 10 < n)) = false := by rw [← hg]; simpa using h2
          have hf := of_decide_eq_false (Bool.or_eq_false_iff.1 hf).2
          have hle : n * 10 + (d.toNat : Int) ≤ 255 := by
            rw [Int.tdiv_eq_ediv_of_nonneg (by omega)] at hf
            omega
          rw [if_neg h2, ← hd] at he
          refine inR_ (by omega) (inR_ (by omega) (inR_ (by omega) ⟨b.length - (p + (k + 1)), by omega, k + 1, _, gr', by omega, rfl, rfl, by omega, hle, ?_⟩))
          rw [← he]; simp only [Nat.add_assoc, Nat.add_comm 1 k]
        · rw [if_pos (Decidable.not_not.1 h2)] at he
          refine inR_ (by omega) ⟨b.length - (p + (k + 1)), by omega, k + 1, n, gr', by omega, rfl, rfl, hn0, hn1, ?_⟩
          rw [← he]; simp only [Nat.add_assoc, Nat.add_comm 1 k]
      refine split_ (fun h2 => ?_) fun h2 => ?_
      · exact key true (by rw [h2]; rfl)
      · refine inR_ (by omega) ⟨by decide, inR_ ?_ (key _ ?_)⟩
        · rw [Int.tdiv_eq_ediv_of_nonneg (by omega)]; omega
        · rw [show gr = false by simpa using h2, hd]
          rw [show decide ((255 : Int) < (c.toNat : Int) - 48) = false from decide_eq_false (by omega)]
          simp
    · have h1 : ¬ (48 ≤ c.toNat ∧ c.toNat ≤ 57) := fun h => h1 (decide_eq_true h)
      rw [numL_cons, if_neg h1] at he
      exact num_end (by rw [← he]; simp)
  · rw [List.drop_eq_nil_of_le (by omega)] at he
    exact num_end (by rw [← he]; simp [numL])
end Go.Proofs.Ytpddiffpanihdaa
