/- The walks of lines.Count, lines.Nth, and the example. -/
import Derived.Test.YtamlifoakcoikaaRefSame
import Derived.Lib.SlBytesConst
namespace Go.Proofs.Ytamlifoakcoikaa
open Go.RowKit

set_option maxHeartbeats 400000 in
theorem count_any {S : Nat → Prop} (A : Option Addr) (n c : Nat) (xs : List UInt8) (w : World) (hx : SlRep S w A n c xs) (hS : ∀ b, S b → b < w.heap.size) (hn : n ≤ 1000000) :
    Calls Try.prog 12 #[.slice A n c] w fun e w' => e = .returned (.int .i64 ((splitLn xs).length : Int)) ∧ Below w.heap.size w w' := by
  go_enter Try.func12, Try.ntmps12
  go_wp2_with (go_at_call 11; refine (split_any _ _ _ _ _ hx hS hn).mono ?_; rintro e w1 ⟨A', c', T, rfl, hown, hT, hb⟩)
  go_ret
  exact ⟨rfl, hb⟩

set_option maxHeartbeats 400000 in
theorem nth_no {S : Nat → Prop} (A : Option Addr) (n c : Nat) (xs : List UInt8) (i : Int) (w : World) (hx : SlRep S w A n c xs) (hS : ∀ b, S b → b < w.heap.size) (hn : n ≤ 1000000) (hi : i < 1 ∨ ((splitLn xs).length : Int) < i) :
    Calls Try.prog 9 #[.slice A n c, .int .i64 i] w fun e w' => e = .returned (.tuple #[.agg #[.slice none 0 0, .bool false], .bool false]) ∧ Below w.heap.size w w' := by
  have hxl := hide (hx.later hS)
  by_cases h1 : i < 1
  · have h2 : decide (i < 1) = true := by simpa using h1
    go_enter Try.func9, Try.ntmps9
    go_wp2_with (go_at_call 11; refine (split_any _ _ _ _ _ (hxl.out _ (by repeat (first | exact Below.refl _ _ | assumption | refine Below.alloc ?_ (by first | assumption | omega | (simp; done) | (simp; omega)) _ | refine Below.drew ?_ | refine below_drewN ?_ _ | refine Below.setCell ?_ (by first | assumption | omega | (simp; done) | (simp; omega)) _))) (fun b hb => Nat.lt_of_lt_of_le (hS b hb) (Below.size (B := w.heap.size) (w := w) (by repeat (first | exact Below.refl _ _ | assumption | refine Below.alloc ?_ (by first | assumption | omega | (simp; done) | (simp; omega)) _ | refine Below.drew ?_ | refine below_drewN ?_ _ | refine Below.setCell ?_ (by first | assumption | omega | (simp; done) | (simp; omega)) _)))) hn).mono ?_; rintro e w1 ⟨A', c', T, rfl, hown, hT, hb⟩; obtain ⟨hcl, hfz⟩ := bcell hb)
    exact bodyPost_ret (v := .tuple #[.agg #[.slice none 0 0, .bool false], .bool false]) (by simp [results, Try.results9, go_sem, hcl]) rfl ⟨rfl, ((((Below.refl _ _).alloc (Nat.le_refl _) _).trans (hb.mono (by simp))).setCell (by simp) _).setCell (by simp) _⟩
  · have h2 : decide (i < 1) = false := by simpa using h1
    have h3 : decide (((splitLn xs).length : Int) < i) = true := by simp; omega
    go_enter Try.func9, Try.ntmps9
    go_wp2_with (go_at_call 11; refine (split_any _ _ _ _ _ (hxl.out _ (by repeat (first | exact Below.refl _ _ | assumption | refine Below.alloc ?_ (by first | assumption | omega | (simp; done) | (simp; omega)) _ | refine Below.drew ?_ | refine below_drewN ?_ _ | refine Below.setCell ?_ (by first | assumption | omega | (simp; done) | (simp; omega)) _))) (fun b hb => Nat.lt_of_lt_of_le (hS b hb) (Below.size (B := w.heap.size) (w := w) (by repeat (first | exact Below.refl _ _ | assumption | refine Below.alloc ?_ (by first | assumption | omega | (simp; done) | (simp; omega)) _ | refine Below.drew ?_ | refine below_drewN ?_ _ | refine Below.setCell ?_ (by first | assumption | omega | (simp; done) | (simp; omega)) _)))) hn).mono ?_; rintro e w1 ⟨A', c', T, rfl, hown, hT, hb⟩; obtain ⟨hcl, hfz⟩ := bcell hb)
    exact bodyPost_ret (v := .tuple #[.agg #[.slice none 0 0, .bool false], .bool false]) (by simp [results, Try.results9, go_sem, hcl]) rfl ⟨rfl, ((((Below.refl _ _).alloc (Nat.le_refl _) _).trans (hb.mono (by simp))).setCell (by simp) _).setCell (by simp) _⟩

set_option maxHeartbeats 400000 in
theorem nth_yes {S : Nat → Prop} (A : Option Addr) (n c : Nat) (xs : List UInt8) (i : Nat) (ii : Int) (w : World) (hx : SlRep S w A n c xs) (hS : ∀ b, S b → b < w.heap.size) (hn : n ≤ 1000000) (hii : ii = (i : Int) + 1) (hi : i < (splitLn xs).length) :
    Calls Try.prog 9 #[.slice A n c, .int .i64 ii] w fun e w' => ∃ A' hd c' nl, e = .returned (.tuple #[.agg #[.slice A' (hd : List UInt8).length c', .bool nl], .bool true]) ∧ (splitLn xs)[i]? = some (hd, nl) ∧
      SlRep (fun b => b < w'.heap.size) w' A' hd.length c' hd ∧ Below w.heap.size w w' := by
  subst hii
  have hxl := hide (hx.later hS)
  have h2 : decide ((i : Int) + 1 < 1) = false := by simp; omega
  have h3 : decide (((splitLn xs).length : Int) < (i : Int) + 1) = false := by simp; omega
  have h4 : (splitLn xs).length ≤ 1000000 := by have := splitLn_length xs; have := hx.1; omega
  go_enter Try.func9, Try.ntmps9
  go_wp2_with (go_at_call 11; refine (split_any _ _ _ _ _ (hxl.out _ (by repeat (first | exact Below.refl _ _ | assumption | refine Below.alloc ?_ (by first | assumption | omega | (simp; done) | (simp; omega)) _ | refine Below.drew ?_ | refine below_drewN ?_ _ | refine Below.setCell ?_ (by first | assumption | omega | (simp; done) | (simp; omega)) _))) (fun b hb => Nat.lt_of_lt_of_le (hS b hb) (Below.size (B := w.heap.size) (w := w) (by repeat (first | exact Below.refl _ _ | assumption | refine Below.alloc ?_ (by first | assumption | omega | (simp; done) | (simp; omega)) _ | refine Below.drew ?_ | refine below_drewN ?_ _ | refine Below.setCell ?_ (by first | assumption | omega | (simp; done) | (simp; omega)) _)))) hn).mono ?_; rintro e w1 ⟨A', c', T, rfl, hown, hT, hb⟩; obtain ⟨hcl, hfz⟩ := bcell hb; obtain ⟨A2, c2, hf, _, hsl⟩ := hown.sl; injection hf with hf1 _ hf2; subst hf1 hf2; obtain ⟨b0, o, hd, nl, Ah, ch, rfl, hSb, hxk, hc0, hc1, hs1⟩ := hsl.line hi)
  have hall : ∀ b, (T b ∨ (Value.slice (some ⟨b0, o, none⟩) (splitLn xs).length c').ownBlock = some b) → w.heap.size < b ∧ b < w1.heap.size := by
    intro b h
    rcases h with h | h
    · have := hT b h; rw [World.size_alloc] at this; exact ⟨by omega, hown.lt b h⟩
    · have := hown.block b h; rw [World.size_alloc] at this; exact ⟨by omega, this.2⟩
  have hw : ¬ (T w.heap.size ∨ (Value.slice (some ⟨b0, o, none⟩) (splitLn xs).length c').ownBlock = some w.heap.size) := fun h => Nat.lt_irrefl _ (hall _ h).1
  refine bodyPost_ret (v := .tuple #[.agg #[.slice Ah hd.length ch, .bool nl], .bool true]) (by simp [results, Try.results9, go_sem, hcl]) rfl ⟨_, _, _, _, rfl, hxk, ?_, ?_⟩
  · exact ((hs1.set_ (p := ⟨w.heap.size, 0, none⟩) hw _).set_ (p := ⟨w.heap.size, 1, none⟩) hw _).sub fun b h => by simpa using (hall b h).2
  · exact ((((Below.refl _ _).alloc (Nat.le_refl _) _).trans (hb.mono (by simp))).setCell (by simp) _).setCell (by simp) _

/-- The document's example. -/
theorem awake_any (w : World) : Calls Try.prog 7 #[] w fun e w' => e = .returned (.bool true) ∧ Below w.heap.size w w' := by
  have hB : ∀ W : World, SlRep (fun b => b = W.heap.size) (W.alloc (.cells #[.int .u8 97, .int .u8 10, .int .u8 98] 5 (3, 4))) (some ⟨W.heap.size, 0, none⟩) 3 3 ([97, 10, 98] : List UInt8) :=
    fun W => const_bytes W _ _ _ _ 3 rfl rfl (by simp [maxLen])
  have kc := fun (W : World) (C : Array Value) (n c : Nat) => Lib.run_convert_bytes_const (P := Try.prog) W 22 5 C n c Try.underlying22 Try.underlying5
  have hs : splitLn ([97, 10, 98] : List UInt8) = [([97], true), ([98], false)] := by decide
  have hh : headLn (List.drop 0 ([97, 10, 98] : List UInt8)) = [97] := by decide
  have hh' : hasNl (List.drop 0 ([97, 10, 98] : List UInt8)) = true := by decide
  have HB := hide hB
  clear hB
  have hcut := fun W Wc hx => cut_any (some ⟨W, 0, none⟩) 3 3 0 ([97, 10, 98] : List UInt8) Wc (S := fun b => b = W) hx
  rw [hh, hh'] at hcut
  have HC := hide hcut
  clear hcut hh hh'
  have hspl := fun W Wc hx => split_any (some ⟨W, 0, none⟩) 3 3 ([97, 10, 98] : List UInt8) Wc (S := fun b => b = W) hx
  rw [hs] at hspl
  have HS := hide hspl
  clear hspl hs
  go_enter Try.func7, Try.ntmps7
  go_wp2_with (go_at_call 11; refine (HS.out _ _ (HB.out _) (by rintro b rfl; simp) (by omega)).mono ?_; rintro e w1 ⟨A1, c1, T, rfl, hown, hT, hb⟩)
  have hz1 := hb.size
  rw [World.size_alloc] at hz1
  have hb1 : Below w.heap.size w w1 := ((Below.refl _ _).alloc (Nat.le_refl _) _).trans (hb.mono (by simp))
  have hz1' : w.heap.size ≤ w1.heap.size := hb1.size
  have htl : ∀ b, (T b ∨ (Value.slice A1 2 c1).ownBlock = some b) → b < w1.heap.size := fun b h => h.elim (hown.lt b) fun h => (hown.block b h).2
  go_wp2_with (go_at_call 15; refine (HC.out _ _ (HB.out _) (by rintro b rfl; simp) (by omega) (by omega)).mono ?_; rintro e w2 ⟨A3, c3, rfl, hown3, hb3⟩
               obtain ⟨A2, c2, hf, _, hsl⟩ := hown.sl
               injection hf with hf1 _ hf2
               subst hf1 hf2
               have hsl2 := hsl.below htl (hb3.mono (by simp : w1.heap.size ≤ (w1.alloc _).heap.size) |> fun h => ((Below.refl _ _).alloc (Nat.le_refl _) _).trans h)
               obtain ⟨b0, o, hd0, nl0, Ah0, ch0, rfl, hS0, hx0, hc00, hc01, hs0⟩ := hsl2.line (k := 0) (by simp)
               obtain ⟨b1, o1, hd1, nl1, Ah1, ch1, he1, hS1, hx1, hc10, hc11, hs1⟩ := hsl2.line (k := 1) (by simp)
               injection he1 with he1
               injection he1 with he1 he2 _
               subst he1 he2
               simp at hx0 hx1
               obtain ⟨rfl, rfl⟩ := hx0
               obtain ⟨rfl, rfl⟩ := hx1
               obtain ⟨b5, o5, x5, rfl, hS5, hx5, hc5⟩ := hs1.byte (k := 0) (by simp)
               simp at hx5
               rw [Nat.add_zero] at hc5
               subst hx5
               have hz2 : w1.heap.size ≤ w2.heap.size := by have h := hb3.size; rw [World.size_alloc] at h; omega
               have hz2' : w.heap.size ≤ w2.heap.size := Nat.le_trans hz1' hz2
               have hlt0 : b0 < w2.heap.size := Nat.lt_of_lt_of_le (htl _ hS0) hz2
               have hlt5 : b5 < w2.heap.size := Nat.lt_of_lt_of_le (htl _ hS5) hz2
               clear hs0 hs1 hsl hsl2 hS0 hS1 hS5)
  go_ret
  exact ⟨rfl, (hb1.trans ((((Below.refl _ _).alloc (Nat.le_refl _) _).trans (hb3.mono (by simp))).mono hz1')).alloc hz2' _⟩
end Go.Proofs.Ytamlifoakcoikaa
