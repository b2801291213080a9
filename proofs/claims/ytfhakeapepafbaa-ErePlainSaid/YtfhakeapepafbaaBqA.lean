/- Basic regular expressions: what the parser's functions compute, in plain terms. -/
import Derived.Test.YtfhakeapepafbaaTrQ
import Derived.Test.YtfhakeapepafbaaBrL
import Derived.Test.YtfhakeapepafbaaEpA
namespace Go.Proofs.Ytfhakeapepafbaa
abbrev PS := (List ND × Int) × List UInt8 × Int × Arr 10 Bool
abbrev RS := Int × List (Int × Int) × PS
def Pz.ps (b : List UInt8) (s : Pz) : PS := ((s.L, (s.g : Int)), b, (s.p : Int), s.cl)
abbrev Res := Int × List (Int × Int) × Pz
def rs (b : List UInt8) (r : Res) : RS := (r.1, r.2.1, r.2.2.ps b)
def okR (x : Int × Pz) : Res := (x.1, [], x.2)
def noR (s : Pz) (e : Int) : Res := (0, [((s.p : Int), e)], s)
def oneR (c : UInt8) (s : Pz) : Res := okR (putS (setN (ofS [c])) (adv s 1))
theorem put_ok (b : List UInt8) (n : ND) (s : Pz) : tree_Builder_put_v2_R (s.ps b) n ((putS n s).1, (putS n s).2.ps b) := by
  unfold putS
  refine split_ (fun h => ?_) fun h => ?_
  · have h : (1000 : Int) ≤ (s.L.length : Int) := h
    rw [if_pos (by omega)]
  · have h : ¬ (1000 : Int) ≤ (s.L.length : Int) := h
    rw [if_neg (by omega)]
    refine ⟨_, isNode_ok n s.L.length s.g, split_ (fun h1 => ?_) fun h1 => ?_⟩
    · rw [if_neg h1]
    · have h1 := Decidable.not_not.1 h1
      rw [if_pos h1]
      refine room_ (by show s.L.length + 1 ≤ _; omega) (by omega) (inR_ ?_ ?_)
      · show -9223372036854775808 ≤ ((s.L ++ [n]).length : Int) - 1 ∧ ((s.L ++ [n]).length : Int) - 1 ≤ 9223372036854775807
        simp; omega
      · have : ((s.L ++ [n]).length : Int) - 1 = (s.L.length : Int) := by simp
        show _ = (((s.L ++ [n]).length : Int) - 1, _)
        rw [this]; rfl
theorem bol_ok (b : List UInt8) (s : Pz) : tree_Builder_Bol_v2_R (s.ps b) ((putS (7, 0, 0, 0, 0, 0, setZ) s).1, (putS (7, 0, 0, 0, 0, 0, setZ) s).2.ps b) := ⟨_, put_ok b _ s, rfl⟩
theorem eol_ok (b : List UInt8) (s : Pz) : tree_Builder_Eol_v2_R (s.ps b) ((putS (8, 0, 0, 0, 0, 0, setZ) s).1, (putS (8, 0, 0, 0, 0, 0, setZ) s).2.ps b) := ⟨_, put_ok b _ s, rfl⟩
theorem set_ok (b : List UInt8) (S : SetT) (s : Pz) : tree_Builder_Set_v2_R (s.ps b) S ((putS (setN S) s).1, (putS (setN S) s).2.ps b) := ⟨_, put_ok b _ s, rfl⟩
theorem rep_ok (b : List UInt8) (a lo hi : Int) (s : Pz) : tree_Builder_Rep_v2_R (s.ps b) a lo hi ((putS (4, a, 0, lo, hi, 0, setZ) s).1, (putS (4, a, 0, lo, hi, 0, setZ) s).2.ps b) := ⟨_, put_ok b _ s, rfl⟩
theorem back_ok (b : List UInt8) (g : Int) (s : Pz) : tree_Builder_Back_v2_R (s.ps b) g ((putS (6, 0, 0, 0, 0, g, setZ) s).1, (putS (6, 0, 0, 0, 0, g, setZ) s).2.ps b) := ⟨_, put_ok b _ s, rfl⟩
theorem group_ok (b : List UInt8) (g a : Int) (s : Pz) : tree_Builder_Group_v2_R (s.ps b) g a ((putS (5, a, 0, 0, 0, g, setZ) s).1, (putS (5, a, 0, 0, 0, g, setZ) s).2.ps b) := ⟨_, put_ok b _ s, rfl⟩
theorem one_ok (b : List UInt8) (c : UInt8) (s : Pz) (hp : s.p ≤ 100000) : bre_parser_one_R (s.ps b) c ((oneR c s).1, (oneR c s).2.2.ps b) :=
  inR_ (by show -9223372036854775808 ≤ (s.p : Int) + 1 ∧ (s.p : Int) + 1 ≤ 9223372036854775807; omega) ⟨_, of_ok [c] (by simp), _, set_ok b _ (adv s 1), rfl⟩
theorem fold_ok (b : List UInt8) (kind : Int) (x : Int) (t : List Int) (s : Pz) (ht : t.length ≤ 100000) : ¬ (x < 0) → ¬ ((s.L.length : Int) ≤ x) →
    tree_Builder_fold_v2_R (s.ps b) kind (x :: t) ((foldS kind t x s).1, (foldS kind t x s).2.ps b) := fun h0 h1 => by
  refine ⟨by decide, x, rfl, split_ (fun h => absurd h h0) fun _ => ⟨by decide, x, rfl, split_ (fun h => absurd h h1) fun _ => ⟨by decide, x, rfl, ⟨by decide, by show (1 : Int) ≤ ((t.length + 1 : Nat) : Int); omega⟩, ?_⟩⟩⟩
  refine loop_ (fun (st : Int × Int × List ND × Int × List UInt8 × Int × Arr 10 Bool) m => ∃ (k : Nat) (at_ : Int) (s' : Pz), k ≤ t.length ∧ m = t.length - k ∧ st = (at_, (k : Int), s'.L, (s'.g : Int), b, (s'.p : Int), s'.cl) ∧ foldS kind (t.drop k) at_ s' = foldS kind t x s) t.length ⟨0, x, s, by omega, rfl, rfl, rfl⟩ ?_
  rintro _ m ⟨k, at_, s', hk, rfl, rfl, he⟩
  show tree_Builder_fold_v2_l1 (x :: t) kind _ at_ (k : Int) s'.L (s'.g : Int) b (s'.p : Int) s'.cl _
  refine split_ (fun h => ?_) fun h => ?_
  · have h : (k : Int) < (t.length : Int) := h
    obtain ⟨y, hy⟩ : ∃ y, t[k]? = some y := ⟨t[k]'(by omega), List.getElem?_eq_getElem (by omega)⟩
    have hd : t.drop k = y :: t.drop (k + 1) := drop_g hy
    rw [hd] at he
    refine ⟨by omega, y, hy, split_ (fun h2 => ?_) fun h2 => ?_⟩
    · rw [← he, fold_cons, if_pos h2]; rfl
    · rw [fold_cons, if_neg h2] at he
      refine ⟨_, put_ok b _ s', inR_ (by omega) ⟨t.length - (k + 1), by omega, k + 1, _, (putS (kind, at_, y, 0, 0, 0, setZ) s').2, by omega, rfl, rfl, he⟩⟩
  · have h : ¬ (k : Int) < (t.length : Int) := h
    obtain rfl : k = t.length := by omega
    rw [List.drop_length] at he
    rw [← he]; rfl
theorem cat_ok (b : List UInt8) (l : List Int) (s : Pz) (hl : l.length ≤ 100000) : tree_Builder_Cat_v2_R (s.ps b) l ((catS l s).1, (catS l s).2.ps b) := by
  cases l with
  | nil => exact split_ (fun _ => ⟨_, ⟨_, put_ok b _ s, rfl⟩, rfl⟩) fun h => absurd rfl h
  | cons x t =>
    refine split_ (fun h => absurd h (by simp; omega)) fun _ => ?_
    rw [cat_cons]
    by_cases h0 : x < 0
    · rw [if_pos (.inl h0)]
      exact ⟨_, ⟨by decide, x, rfl, split_ (fun _ => rfl) fun h => absurd h0 h⟩, rfl⟩
    · by_cases h1 : (s.L.length : Int) ≤ x
      · rw [if_pos (.inr h1)]
        exact ⟨_, ⟨by decide, x, rfl, split_ (fun h => absurd h h0) fun _ => ⟨by decide, x, rfl, split_ (fun _ => rfl) fun h => absurd h1 h⟩⟩, rfl⟩
      · rw [if_neg (by omega)]
        exact ⟨_, fold_ok b 2 x t s (by simp at hl; omega) h0 h1, rfl⟩
theorem ba_list (l : List UInt8) : (⟨l.toArray⟩ : ByteArray).toList = l := by rw [ByteArray.toList_eq]
theorem has_ok (b : List UInt8) (s : Pz) (l : List UInt8) (hb : b.length ≤ 1000) (hp : s.p ≤ b.length) (hl : l.length ≤ 100) : bre_parser_has_R (s.ps b) ⟨l.toArray⟩ (hasS b s.p l) := by
  have hsz : (((⟨l.toArray⟩ : ByteArray).size : Nat) : Int) = (l.length : Int) := rfl
  unfold bre_parser_has_R
  rw [hsz]
  refine inR_ (by show -9223372036854775808 ≤ (b.length : Int) - (s.p : Int) ∧ (b.length : Int) - (s.p : Int) ≤ 9223372036854775807; omega) (split_ (fun h => ?_) fun h => ?_)
  · have h : (l.length : Int) ≤ (b.length : Int) - (s.p : Int) := h
    refine inR_ (by show -9223372036854775808 ≤ (s.p : Int) + (l.length : Int) ∧ (s.p : Int) + (l.length : Int) ≤ 9223372036854775807; omega) ⟨⟨by show (0 : Int) ≤ (s.p : Int); omega, by show (s.p : Int) ≤ (s.p : Int) + (l.length : Int); omega, by show (s.p : Int) + (l.length : Int) ≤ (b.length : Int); omega⟩, ?_⟩
    have e1 : ((b.take ((s.p : Int) + (l.length : Int)).toNat).drop ((s.p : Int)).toNat) = (b.drop s.p).take l.length := by
      rw [show ((s.p : Int) + (l.length : Int)).toNat = s.p + l.length by omega, show ((s.p : Int)).toNat = s.p by omega, List.drop_take]
      congr 1; omega
    show hasS b s.p l = ((⟨((b.take ((s.p : Int) + (l.length : Int)).toNat).drop ((s.p : Int)).toNat).toArray⟩ : ByteArray).toList == (⟨l.toArray⟩ : ByteArray).toList)
    rw [e1, ba_list, ba_list]
    unfold hasS
    by_cases hx : (b.drop s.p).take l.length = l
    · rw [decide_eq_true hx, hx]; simp
    · rw [decide_eq_false hx]
      exact (beq_eq_false_iff_ne.2 hx).symm
  · have h : ¬ (l.length : Int) ≤ (b.length : Int) - (s.p : Int) := h
    refine decide_eq_false (fun h2 => ?_)
    have := congrArg List.length h2
    rw [List.length_take, List.length_drop] at this
    omega
end Go.Proofs.Ytfhakeapepafbaa
