/- The law SinksNone, in plain terms. -/
import Derived.Lib.ItoaLen
import Derived.Test.YthffeojphpajpaaDoorPl
import Derived.Test.YthffeojphpajpaaDoorGKL1
namespace Go.Proofs.YthffeojphpajpaaDoor
theorem awake_ok : palinodelaw19_awake_R true := palinodelaw19_awake_ok (fuel := 50) (by kernel_rfl)
theorem clone_ok (l : List UInt8) (h : l.length ≤ 1000) : slices_Clone_R l l := by
  intro b hb
  refine split_ (fun h1 => ?_) fun _ => room_ (by simp; omega) (by omega) rfl
  by_cases h0 : l = []
  · exact h0
  · rw [hb h0] at h1; cases h1
theorem copy_ok (l : List UInt8) (h : l.length ≤ 1000) : palinoderef01_Copy_R l l := room_ (by simp; omega) (by omega) rfl
def writeM (o3 : Bool) (most : Int) (l b : List UInt8) (sh : Bool) : Int × List UInt8 × Bool :=
  if most < ((l ++ (if o3 then [10] else []) ++ b).length : Int) then (7, (l ++ (if o3 then [10] else []) ++ b).take l.length, o3) else (0, l ++ (if o3 then [10] else []) ++ b, sh)
theorem write_ok (o3 : Bool) (most : Int) (l b : List UInt8) (sh : Bool) (h1 : l.length ≤ 1000) (h2 : b.length ≤ 1000) : sinks_Sink_write_R o3 most l b sh (writeM o3 most l b sh) := by
  have key : ∀ l2 : List UInt8, l2 = l ++ (if o3 then [10] else []) → l2.length ≤ 2000 → sinks_Sink_write_j1 b l o3 sh most l2 (writeM o3 most l b sh) := by
    intro l2 e hl
    unfold writeM
    rw [← e]
    have hle : l.length ≤ (l2 ++ b).length := by rw [e, List.length_append, List.length_append]; omega
    refine room_ (by omega) (by omega) ⟨if most < ((l2 ++ b).length : Int) then ((l2 ++ b).take l.length, 7, o3) else (l2 ++ b, 0, sh), ?_, by split <;> rfl⟩
    exact split_ (fun h => by rw [if_pos h]; exact ⟨⟨by omega, by omega⟩, by rw [Int.toNat_natCast]⟩) fun h => by rw [if_neg h]
  refine split_ (fun h => room_ (by simp; omega) (by omega) (key _ (by rw [if_pos h]) (by simp; omega))) fun h => key _ (by rw [if_neg h, List.append_nil]) (by omega)
theorem line_ok (o3 : Bool) (most : Int) (l b : List UInt8) (nl : Bool) (h1 : l.length ≤ 1000) (h2 : b.length ≤ 900) : sinks_Sink_Line_R o3 most l (b, nl) (if nl then writeM o3 most l (b ++ [10]) false else writeM o3 most l b true) := by
  refine split_ (fun h => ?_) fun h => ?_
  · rw [if_neg h]; exact ⟨_, write_ok _ _ _ _ _ h1 (by show b.length ≤ _; omega), rfl⟩
  · rw [if_pos (Classical.not_not.1 h)]
    exact ⟨_, clone_ok _ (by show b.length ≤ _; omega), room_ (by simp; omega) (by omega) ⟨_, write_ok _ _ _ _ _ h1 (by simp; omega), rfl⟩⟩
theorem line2_ok (b : List UInt8) (nl : Bool) (h : b.length ≤ 900) : sinks_Sink_Line_v2_R (b, nl) 1 :=
  split_ (fun _ => ⟨1, rfl, rfl⟩) fun _ => ⟨_, clone_ok _ (by show b.length ≤ _; omega), room_ (by simp; omega) (by omega) ⟨1, rfl, rfl⟩⟩
theorem text_ok (b : List UInt8) (h : b.length ≤ 900) : sinks_Sink_Text_R b 1 :=
  split_ (fun h0 => inR_ (by omega) (at_ (by omega) (by omega) fun _ _ => ⟨1, rfl, rfl⟩)) fun _ => ⟨1, rfl, rfl⟩
theorem num_ok (n : Int) (hn : InR n) : ∃ y : ByteArray, digit_Text_R n y ∧ y.size ≤ maxLen ∧ y.data.toList.length ≤ 21 := by
  have hl := Lib.itoa_length_le n hn.1 hn.2
  refine ⟨_, ⟨_, ⟨hn, rfl⟩, rfl⟩, ?_, ?_⟩
  · show (Lib.itoa n).toArray.size ≤ maxLen
    unfold maxLen; simp; omega
  · simpa using hl
theorem text2_ok (b : List UInt8) (h : b.length ≤ 60) : ∃ sh, sinks_Sink_Text_v2_R false 500 [] b (0, b, sh) := by
  have hw : ∀ sh, writeM false 500 [] b sh = (0, b, sh) := fun sh => by unfold writeM; rw [if_neg (by simp; omega)]; simp
  cases hb : b with
  | nil => exact ⟨false, split_ (fun _ => rfl) fun q => absurd rfl q⟩
  | cons c l =>
    rw [← hb]
    have h0 : 0 < b.length := by rw [hb]; simp
    have hx : b[(b.length : Int).toNat - 1]? = some b[b.length - 1] := by rw [Int.toNat_natCast]; exact List.getElem?_eq_getElem (by omega)
    refine ⟨!(decide (((b[b.length - 1]).toNat : Int) = 10)), split_ (fun q => absurd q (by omega)) fun _ => split_ (fun _ => inR_ (by omega) ⟨by omega, b[b.length - 1], ?_, _, write_ok _ _ _ _ _ (by simp) (by omega), by rw [hw]⟩) fun q => absurd (by omega) q⟩
    rw [show ((b.length : Int) - 1).toNat = b.length - 1 by omega]; exact List.getElem?_eq_getElem (by omega)
theorem number2_ok (sh : Bool) (b : List UInt8) (n : Int) (hn : InR n) (h : b.length ≤ 60) : ∃ l s2, sinks_Sink_Number_v2_R sh 500 b n (0, l, s2) := by
  obtain ⟨y, h1, h2, h3⟩ := num_ok n hn
  have h4 : y.size ≤ 21 := by rw [Array.length_toList] at h3; exact h3
  have hw : writeM sh 500 b (y.data.toList ++ [10]) false = (0, b ++ (if sh then [10] else []) ++ (y.data.toList ++ [10]), false) := by
    unfold writeM
    rw [if_neg]
    cases sh <;> simp <;> omega
  refine ⟨b ++ (if sh then [10] else []) ++ (y.data.toList ++ [10]), false, y, h1, h2, _, line_ok sh 500 b y.data.toList true (by omega) (by omega), ?_⟩
  rw [if_pos rfl, hw]
theorem same_ok (l : List UInt8) (h : l.length ≤ 1000) : palinoderef01_Same_R l l true := by
  refine split_ (fun q => absurd rfl q) fun _ => loop_ (fun s m => ∃ i : Nat, s = (i : Int) ∧ i ≤ l.length ∧ m = l.length - i) _ ⟨0, rfl, by omega, rfl⟩ ?_
  rintro _ m ⟨i, rfl, hi, rfl⟩
  unfold palinoderef01_Same_l1
  refine split_ (fun h1 => ?_) fun _ => rfl
  refine at_ (by omega) h1 fun x hx => at_ (by omega) h1 fun y hy => ?_
  rw [hx] at hy; injection hy with hy
  exact split_ (fun q => absurd (by rw [hy]) q) fun _ => inR_ (by omega) ⟨l.length - (i + 1), by omega, i + 1, by omega, by omega, rfl⟩
theorem sinksnone_law (b : List UInt8) (n : Int) (hn : InR n) : palinodelaw19_SinksNone_R b n true := by
  refine split_ (fun _ => ⟨_, awake_ok, rfl⟩) fun hb => ?_
  have hb : b.length ≤ 60 := by omega
  have t : ∀ {A B : Prop}, B → ((¬ ((1 : Int) = 1) → A) ∧ (¬ (¬ ((1 : Int) = 1)) → B)) := fun h => ⟨fun q => absurd rfl q, fun _ => h⟩
  refine ⟨1, line2_ok b false (by omega), t ⟨1, rfl, t ⟨1, text_ok b (by omega), t ⟨1, text_ok [] (by simp), t ?_⟩⟩⟩⟩
  obtain ⟨y, h1, h2, h3⟩ := num_ok n hn
  refine ⟨1, ⟨y, h1, h2, 1, line2_ok _ _ (by omega), rfl⟩, t ⟨(), rfl, split_ (fun q => by cases q) fun _ => ?_⟩⟩
  refine ⟨b, copy_ok b (by omega), room_ (by simp; omega) (by omega) ⟨⟨by omega, by simp; omega⟩, ?_⟩⟩
  rw [Int.toNat_natCast, List.take_left]
  obtain ⟨sh, k1⟩ := text2_ok b hb
  refine ⟨_, k1, split_ (fun q => absurd rfl q) fun _ => ?_⟩
  obtain ⟨l, s2, k2⟩ := number2_ok sh b n hn hb
  refine ⟨_, k2, split_ (fun q => absurd rfl q) fun _ => ⟨b, copy_ok b (by omega), room_ (by simp; omega) (by omega) ⟨true, same_ok _ (by simp; omega), split_ (fun _ => ⟨_, awake_ok, rfl⟩) fun q => absurd rfl q⟩⟩⟩
end Go.Proofs.YthffeojphpajpaaDoor
