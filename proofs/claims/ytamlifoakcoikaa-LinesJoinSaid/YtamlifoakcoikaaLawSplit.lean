/- The walk of the law LinesSplit. -/
import Derived.Test.YtamlifoakcoikaaLaws02
import Derived.Deep.RegionHeld3
namespace Go.Proofs.Ytamlifoakcoikaa
open Go.RowKit

theorem sl_of_own {α : Type} [Rp α] {T : Nat → Prop} {w : World} {base : Nat} {E : TypeId} {A : Option Addr} {n c : Nat} {xs : List α} (h : Own T w base E (.slice A n c) xs) : SlRep (fun b => b < w.heap.size) w A n c xs := by
  obtain ⟨A2, c2, hf, _, hsl⟩ := h.sl
  injection hf with hf1 hf3 hf2
  subst hf1 hf2 hf3
  exact hsl.sub fun b hb => hb.elim (h.lt b) fun e => (h.block b e).2

set_option maxHeartbeats 400000 in
theorem lsplit_any (A : Option Addr) (n c : Nat) (xs : List UInt8) (i : Int) (w : World) (hx : SlRep (fun b => b < w.heap.size) w A n c xs) (hi : I64 i) :
    Calls Try.prog 3 #[.slice A n c, .int .i64 i] w fun e w' => e = .returned (.bool true) ∧ Below w.heap.size w w' := by
  by_cases hn : n ≤ 300
  · have hd : decide ((300 : Int) < (n : Int)) = false := by simp; omega
    have hS := hide (show ∀ b, b < w.heap.size → b < w.heap.size from fun _ h => h)
    have hxl := hide (hx.later hS.out)
    have hl := hide hx.1
    unfold I64 at hi
    have hle : (splitLn xs).length ≤ 1000000 := by have := splitLn_length xs; have := hl.out; omega
    by_cases hth : 1 ≤ i ∧ i ≤ ((splitLn xs).length : Int)
    · obtain ⟨j, rfl⟩ : ∃ j : Nat, i = (j : Int) + 1 := ⟨(i - 1).toNat, by omega⟩
      have hj : j < (splitLn xs).length := by omega
      have hj1 : decide (1 ≤ (j : Int) + 1) = true := by simp; omega
      have hj2 : decide ((j : Int) + 1 ≤ ((splitLn xs).length : Int)) = true := by simp; omega
      go_enter Try.func3, Try.ntmps3
      go_wp2_with (first
        | (go_at_call 8; refine (refSplit_any _ _ _ _ _ (hxl.out _ (by repeat (first | exact Below.refl _ _ | assumption | refine Below.alloc ?_ (by first | assumption | omega | (simp; done) | (simp; omega)) _ | refine Below.drew ?_ | refine below_drewN ?_ _ | refine Below.setCell ?_ (by first | assumption | omega | (simp; done) | (simp; omega)) _))) (fun b hb => Nat.lt_of_lt_of_le (hS.out b hb) (Below.size (B := w.heap.size) (w := w) (by repeat (first | exact Below.refl _ _ | assumption | refine Below.alloc ?_ (by first | assumption | omega | (simp; done) | (simp; omega)) _ | refine Below.drew ?_ | refine below_drewN ?_ _ | refine Below.setCell ?_ (by first | assumption | omega | (simp; done) | (simp; omega)) _)))) (by omega)).mono ?_; rintro e w1 ⟨A1, c1, T1, rfl, hown1, hT1, hb1⟩)
        | (go_at_call 9; refine (nth_yes _ _ _ _ j _ _ (hxl.out _ hb1) (fun b hb => Nat.lt_of_lt_of_le (hS.out b hb) (Below.size (B := w.heap.size) (w := w) (by repeat (first | exact Below.refl _ _ | assumption | refine Below.alloc ?_ (by first | assumption | omega | (simp; done) | (simp; omega)) _ | refine Below.drew ?_ | refine below_drewN ?_ _ | refine Below.setCell ?_ (by first | assumption | omega | (simp; done) | (simp; omega)) _)))) (by omega) rfl hj).mono ?_; rintro e w2 ⟨A2, hd2, c2, nl2, rfl, hx2, hs2, hb2⟩))
      have hb3 := balloc w2 (.cells #[.slice A2 hd2.length c2, .bool nl2] 27)
      have hbx0 : (w2.alloc (.cells #[.slice A2 hd2.length c2, .bool nl2] 27)).cell? ⟨w2.heap.size, 0, none⟩ = some (.slice A2 hd2.length c2) := World.cell?_alloc_at _ _ _ _ rfl
      have hbx1 : (w2.alloc (.cells #[.slice A2 hd2.length c2, .bool nl2] 27)).cell? ⟨w2.heap.size, 1, none⟩ = some (.bool nl2) := World.cell?_alloc_at _ _ _ _ rfl
      have hjc : (j : Int) + 1 ≤ (c1 : Int) := by have := (sl_of_own hown1).2.1.1; omega
      have hw1 : IntKind.i64.wrap ((j : Int) + 1 - 1) = (j : Int) := by rw [IntWalk.i64_in _ (by omega)]; omega
      have hw2 : ((j : Int) + 1).toNat = j + 1 := by omega
      have hw3 : (0 : Int) ≤ (j : Int) + 1 := by omega
      have hcj : ¬ c1 = j := by omega
      have hw5 : IntKind.i64.wrap (j : Int) = (j : Int) := IntWalk.i64_in _ (by omega)
      have hw4 : (j : Int) ≤ (j : Int) + 1 := by omega
      obtain ⟨b1, o1, rfl, _, hdr⟩ := (sl_of_own hown1).drop hj
      have hdr := hdr.take (k := 1) (by omega)
      rw [show ((splitLn xs).drop j).take 1 = [(hd2, nl2)] by rw [List.take_one, List.head?_drop, hx2]; rfl] at hdr
      have hwl := hide ((sl_of_own hown1).later fun _ h => h)
      have hdl := hide (hdr.later fun _ h => h)
      have hs2 := hide (hs2.later fun _ h => h)
      generalize hW3 : w2.alloc (.cells #[.slice A2 hd2.length c2, .bool nl2] 27) = w3 at *
      have HW := hide hW3
      have hlt23 : w2.heap.size < w3.heap.size := by rw [← hW3, World.size_alloc]; omega
      clear hW3
      have hbn := bnext hb3 ((balloc w3 (.cells #[.slice A2 hd2.length c2, .bool nl2] 27)).drew)
      have hs3 := hs2.out _ hb3
      have hN : SlRep (fun b => b < w3.heap.size + 1) (w3.alloc (.cells #[.slice A2 hd2.length c2, .bool nl2] 27)).drew (some ⟨w3.heap.size, 0, none⟩) 1 1 [(hd2, nl2)] := by
        have h : Own (fun b => b < w3.heap.size) (w3.alloc (.cells #[.slice A2 hd2.length c2, .bool nl2] 27)) w3.heap.size 27 (.slice (some ⟨w3.heap.size, 0, none⟩) 1 1) [(hd2, nl2)] :=
          Own.new_ w3 _ _ 1 rfl (by simp [maxLen]) (fun _ h => h) (Nat.le_refl _) (Chunks.single ⟨[_], [_], rfl, ⟨_, _, _, rfl, (hs3.sub fun b hb => Nat.lt_of_lt_of_le hb hb3.size).below (fun _ h => h) (balloc _ _)⟩, rfl⟩)
        have := sl_of_own h
        rw [World.size_alloc] at this
        exact this
      have hD : SlRep (fun b => b < w1.heap.size) (w3.alloc (.cells #[.slice A2 hd2.length c2, .bool nl2] 27)).drew (some ⟨b1, o1 + j * 2, none⟩) 1 (c1 - j) [(hd2, nl2)] := hdl.out _ (bnext hb2 hbn)
      have HN := hide hN
      have HD := hide hD
      clear hN hD hs3
      go_region_held3 (fun w' => w'.cell? ⟨w2.heap.size, 0, none⟩ = some (.slice A2 hd2.length c2) ∧ w'.cell? ⟨w2.heap.size, 1, none⟩ = some (.bool nl2) ∧ Below w3.heap.size w3 w') (first | (refine ⟨?_, ?_, ?_⟩ <;> (first | assumption | exact (Below.refl _ _).drew | exact ((Below.refl _ _).alloc (Nat.le_refl _) _).drew | (simp [*, go_sem]; done) | go_keep)) | assumption | exact ((Below.refl _ _).alloc (Nat.le_refl _) _).drew | exact (Below.refl _ _).drew | go_keep)
        (first | (go_at_call 10; refine (sameLn_eq _ _ _ _ _ _ _ _ HN.out HD.out).mono ?_; rintro e w4 ⟨rfl, hb4⟩; have hb34 := bnext ((balloc w3 (.cells #[.slice A2 hd2.length c2, .bool nl2] 27)).drew) hb4; have hq0 := (hb34.cell (p := ⟨w2.heap.size, 0, none⟩) hlt23).trans hbx0; have hq1 := (hb34.cell (p := ⟨w2.heap.size, 1, none⟩) hlt23).trans hbx1))
      have hwl := hide ((sl_of_own hown1).later fun _ h => h)
      go_wp2_with (go_at_call 11; refine (split_any _ _ _ _ _ (hxl.out _ (bnext (bnext hb1 hb2) (bnext hb3 hb34))) (fun b hb => Nat.lt_of_lt_of_le (hS.out b hb) (bnext (bnext hb1 hb2) (bnext hb3 hb34)).size) (by omega)).mono ?_; rintro e w5 ⟨A5, c5, T5, rfl, hown5, hT5, hb5⟩)
      have hb15 := bnext (bnext hb2 (bnext hb3 hb34)) hb5
      have hbw5 := bnext hb1 hb15
      go_wp2_with (go_at_call 10; refine (sameLn_eq _ _ _ _ _ _ _ _ (sl_of_own hown5) (hwl.out _ hb15)).mono ?_; rintro e w6 ⟨rfl, hb6⟩)
      have hbw6 := bnext hbw5 hb6
      have hS6 := fun b hb => Nat.lt_of_lt_of_le (hS.out b hb) hbw6.size
      go_wp2_with (first
        | (go_at_call 12; refine (count_any _ _ _ _ _ (hxl.out _ hbw6) hS6 (by omega)).mono ?_; rintro e w7 ⟨rfl, hb7⟩)
        | (go_at_call 7; refine (awake_any _).mono ?_; rintro e w8 ⟨rfl, hb8⟩))
      go_ret
      exact ⟨rfl, bnext (bnext hbw6 hb7) hb8⟩
    · have hq : Hid (i < 1 ∨ ((splitLn xs).length : Int) < i) := by show _ ∨ _; omega
      have hq1 : (decide (1 ≤ i) = true ∧ decide (i ≤ ((splitLn xs).length : Int)) = false) ∨ decide (1 ≤ i) = false := by
        simp only [decide_eq_true_eq, decide_eq_false_iff_not]; omega
      rcases hq1 with ⟨hq1, hq2⟩ | hq1
      all_goals
        go_enter Try.func3, Try.ntmps3
        go_wp2_with (first
          | (go_at_call 8; refine (refSplit_any _ _ _ _ _ (hxl.out _ (by repeat (first | exact Below.refl _ _ | assumption | refine Below.alloc ?_ (by first | assumption | omega | (simp; done) | (simp; omega)) _ | refine Below.drew ?_ | refine below_drewN ?_ _ | refine Below.setCell ?_ (by first | assumption | omega | (simp; done) | (simp; omega)) _))) (fun b hb => Nat.lt_of_lt_of_le (hS.out b hb) (Below.size (B := w.heap.size) (w := w) (by repeat (first | exact Below.refl _ _ | assumption | refine Below.alloc ?_ (by first | assumption | omega | (simp; done) | (simp; omega)) _ | refine Below.drew ?_ | refine below_drewN ?_ _ | refine Below.setCell ?_ (by first | assumption | omega | (simp; done) | (simp; omega)) _)))) (by omega)).mono ?_; rintro e w1 ⟨A1, c1, T1, rfl, hown1, hT1, hb1⟩)
          | (go_at_call 9; refine (nth_no _ _ _ _ _ _ (hxl.out _ hb1) (fun b hb => Nat.lt_of_lt_of_le (hS.out b hb) (Below.size (B := w.heap.size) (w := w) (by repeat (first | exact Below.refl _ _ | assumption | refine Below.alloc ?_ (by first | assumption | omega | (simp; done) | (simp; omega)) _ | refine Below.drew ?_ | refine below_drewN ?_ _ | refine Below.setCell ?_ (by first | assumption | omega | (simp; done) | (simp; omega)) _)))) (by omega) hq.out).mono ?_; rintro e w2 ⟨rfl, hb2⟩))
        go_quiet (fail)
        have hwl := hide ((sl_of_own hown1).later fun _ h => h)
        go_wp2_with (go_at_call 11; refine (split_any _ _ _ _ _ (hxl.out _ (bnext (bnext hb1 hb2) (bnext (balloc _ _) (bdrewN _ _)))) (fun b hb => Nat.lt_of_lt_of_le (hS.out b hb) (bnext (bnext hb1 hb2) (bnext (balloc _ _) (bdrewN _ _))).size) (by omega)).mono ?_; rintro e w5 ⟨A5, c5, T5, rfl, hown5, hT5, hb5⟩)
        have hb15 := bnext (bnext hb2 (bnext (balloc _ _) (bdrewN _ _))) hb5
        have hbw5 := bnext hb1 hb15
        go_wp2_with (go_at_call 10; refine (sameLn_eq _ _ _ _ _ _ _ _ (sl_of_own hown5) (hwl.out _ hb15)).mono ?_; rintro e w6 ⟨rfl, hb6⟩)
        have hbw6 := bnext hbw5 hb6
        have hS6 := fun b hb => Nat.lt_of_lt_of_le (hS.out b hb) hbw6.size
        go_wp2_with (first
          | (go_at_call 12; refine (count_any _ _ _ _ _ (hxl.out _ hbw6) hS6 (by omega)).mono ?_; rintro e w7 ⟨rfl, hb7⟩)
          | (go_at_call 7; refine (awake_any _).mono ?_; rintro e w8 ⟨rfl, hb8⟩))
        go_ret
        exact ⟨rfl, bnext (bnext hbw6 hb7) hb8⟩
  · have hd : decide ((300 : Int) < (n : Int)) = true := by simp; omega
    go_enter Try.func3, Try.ntmps3
    go_wp2_with (go_at_call 7; refine (awake_any _).mono ?_; rintro e w1 ⟨rfl, hb⟩)
    go_ret
    exact ⟨rfl, hb⟩
end Go.Proofs.Ytamlifoakcoikaa
