/- The whole of a bracket expression; what lies behind it changes nothing. -/
import Derived.Test.YtpddiffpanihdaaBrP
namespace Go.Proofs.Ytpddiffpanihdaa
def hd93 : List UInt8 → Bool
  | [] => false
  | x :: _ => decide (x.toNat = 93)
def isNot : List UInt8 → Bool
  | [] => false
  | x :: _ => decide (x.toNat = 94)
def loopT : Nat → Bool → List UInt8 → SetT → Nat → Except Int (SetT × Nat)
  | 0, _, _, _, _ => .error 11
  | n + 1, first, t, s, len => if first = false ∧ hd93 t = true then .ok (s, len + 1) else match partT t with
    | .error e => .error e
    | .ok x => loopT n false (t.drop x.2) (unS [s, x.1]) (len + x.2)
theorem loopT_succ (n : Nat) (first : Bool) (t : List UInt8) (s : SetT) (len : Nat) : loopT (n + 1) first t s len = if first = false ∧ hd93 t = true then .ok (s, len + 1) else match partT t with
    | .error e => .error e
    | .ok x => loopT n false (t.drop x.2) (unS [s, x.1]) (len + x.2) := rfl
def endR (no : Bool) (at_ : Nat) : Except Int (SetT × Nat) → SetT × Int × Int
  | .error e => (z4, 0, e)
  | .ok x => (if no = true then notS x.1 else x.1, ((at_ + x.2 : Nat) : Int), 0)
def parseR (b : List UInt8) (at_ : Nat) : SetT × Int × Int :=
  if isNot (b.drop at_) = true then endR true (at_ + 1) (loopT ((b.drop (at_ + 1)).length + 1) true (b.drop (at_ + 1)) z4 0)
  else endR false at_ (loopT ((b.drop at_).length + 1) true (b.drop at_) z4 0)
theorem bloop_ok (b : List UInt8) (no : Bool) (a0 : Nat) (hb : b.length ≤ 1000) (h0 : a0 ≤ b.length) : LoopR (fun ag4 st => brack_Parse_l4 b no ag4 st.1 st.2.1 st.2.2 (endR no a0 (loopT ((b.drop a0).length + 1) true (b.drop a0) z4 0))) ((a0 : Int), true, z4) := by
  refine loop_ (fun (st : Int × Bool × SetT) m => ∃ (n l : Nat) (first : Bool) (f : SetT), m = n ∧ a0 + l ≤ b.length ∧ b.length - (a0 + l) < n ∧ st = (((a0 + l : Nat) : Int), first, f) ∧ loopT n first (b.drop (a0 + l)) f l = loopT ((b.drop a0).length + 1) true (b.drop a0) z4 0) ((b.drop a0).length + 1) ⟨(b.drop a0).length + 1, 0, true, z4, rfl, by omega, by rw [List.length_drop]; omega, rfl, rfl⟩ ?_
  rintro _ n ⟨_, l, first, f, rfl, hl, hn, rfl, hr⟩
  show brack_Parse_l4 b no _ ((a0 + l : Nat) : Int) first f _
  obtain ⟨n, rfl⟩ : ∃ j, n = j + 1 := ⟨n - 1, by omega⟩
  generalize hW : loopT ((b.drop a0).length + 1) true (b.drop a0) z4 0 = W at hr ⊢
  rw [loopT_succ] at hr
  have hj5 : ¬ (first = false ∧ hd93 (b.drop (a0 + l)) = true) → brack_Parse_j5 b ((a0 + l : Nat) : Int) f (fun s' => ∃ m', m' < n + 1 ∧ ∃ (n l : Nat) (first : Bool) (f : SetT), m' = n ∧ a0 + l ≤ b.length ∧ b.length - (a0 + l) < n ∧ s' = (((a0 + l : Nat) : Int), first, f) ∧ loopT n first (b.drop (a0 + l)) f l = W) (endR no a0 W) := fun h => by
    rw [if_neg h] at hr
    refine ⟨_, part_ok b (a0 + l) hb hl, ?_⟩
    cases hp : partT (b.drop (a0 + l)) with
    | error e =>
      rw [hp] at hr
      rw [← hr]
      exact split_ (fun _ => rfl) fun h => absurd (partT_err hp) h
    | ok x =>
      rw [hp] at hr
      have hlen := partT_len (s := x.1) (l := x.2) hp
      rw [List.length_drop] at hlen
      refine split_ (fun h => absurd rfl h) fun _ => ⟨_, union_ok [f, x.1] (by simp), n, by omega, n, l + x.2, false, unS [f, x.1], rfl, by omega, by omega, ?_, ?_⟩
      · refine Prod.ext ?_ rfl
        show ((a0 + l + x.2 : Nat) : Int) = ((a0 + (l + x.2) : Nat) : Int)
        omega
      · rw [← hr]
        simp only
        rw [List.drop_drop, Nat.add_assoc]
  refine split_ (fun h1 => ?_) fun h1 => ?_
  · obtain ⟨x, hx⟩ : ∃ x, b[a0 + l]? = some x := ⟨_, List.getElem?_eq_getElem (by omega)⟩
    have hd := drop_at hx
    refine ⟨by omega, x, by rw [Int.toNat_natCast]; exact hx, split_ (fun h2 => split_ (fun h3 => ?_) fun h3 => ?_) fun h2 => ?_⟩
    · have hf : first = false := by simpa using h3
      rw [if_pos ⟨hf, by rw [hd]; exact decide_eq_true (by omega)⟩] at hr
      rw [← hr]
      refine split_ (fun h4 => ⟨_, not_ok f, inR_ (by omega) ?_⟩) fun h4 => inR_ (by omega) ?_
      · show (if no = true then notS f else f, ((a0 + (l + 1) : Nat) : Int), (0 : Int)) = (notS f, ((a0 + l : Nat) : Int) + 1, 0)
        rw [if_pos h4]; rfl
      · show (if no = true then notS f else f, ((a0 + (l + 1) : Nat) : Int), (0 : Int)) = (f, ((a0 + l : Nat) : Int) + 1, 0)
        rw [if_neg h4]; rfl
    · refine hj5 fun h => h3 ?_
      rw [h.1]; exact Bool.false_ne_true
    · refine hj5 fun h => h2 ?_
      have := h.2
      rw [hd] at this
      have := of_decide_eq_true this
      omega
  · refine hj5 fun h => ?_
    have := h.2
    rw [List.drop_eq_nil_of_le (by omega)] at this
    cases this
theorem parse_ok (b : List UInt8) (at_ : Nat) (hb : b.length ≤ 1000) (h0 : at_ ≤ b.length) : brack_Parse_R b (at_ : Int) (parseR b at_) := by
  show brack_Parse_j1 (at_ : Int) b _ _
  rw [show ((decide ((at_ : Int) < 0)) || (decide ((b.length : Int) < (at_ : Int)))) = false from by
    rw [Bool.or_eq_false_iff, decide_eq_false_iff_not, decide_eq_false_iff_not]; omega]
  unfold parseR
  refine split_ (fun h => by cases h) fun _ => split_ (fun h1 => ?_) fun h1 => ?_
  · obtain ⟨x, hx⟩ : ∃ x, b[at_]? = some x := ⟨_, List.getElem?_eq_getElem (by omega)⟩
    have hd := drop_at hx
    refine ⟨by omega, x, by rw [Int.toNat_natCast]; exact hx, ?_⟩
    by_cases h2 : x.toNat = 94
    · rw [decide_eq_true (show (x.toNat : Int) = 94 by omega), if_pos (by rw [hd]; exact decide_eq_true h2)]
      refine split_ (fun _ => inR_ (by omega) ?_) fun h => absurd rfl h
      have := bloop_ok b true (at_ + 1) hb (by omega)
      exact this
    · rw [decide_eq_false (show ¬ (x.toNat : Int) = 94 by omega), if_neg (by rw [hd]; show ¬ decide (x.toNat = 94) = true; rw [decide_eq_false h2]; exact Bool.false_ne_true)]
      exact split_ (fun h => by cases h) fun _ => bloop_ok b false at_ hb h0
  · rw [if_neg (by rw [List.drop_eq_nil_of_le (by omega)]; exact Bool.false_ne_true)]
    exact split_ (fun h => by cases h) fun _ => bloop_ok b false at_ hb h0
end Go.Proofs.Ytpddiffpanihdaa
