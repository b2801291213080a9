/- The walk of the law LinesCut. -/
import Derived.Test.YtamlifoakcoikaaLawSplit
import Derived.Test.YtamlifoakcoikaaRegion
namespace Go.Proofs.Ytamlifoakcoikaa
open Go.RowKit

theorem headLn_no (l : List UInt8) : ∀ (i : Nat) (x : UInt8), (headLn l)[i]? = some x → x ≠ 10 := by
  induction l with
  | nil => intro i x h; simp [headLn] at h
  | cons b l ih =>
    intro i x h
    rw [headLn_cons] at h
    cases hb : b == 10
    · rw [hb] at h
      cases i with
      | zero => simp at h; subst h; intro e; subst e; simp at hb
      | succ i => exact ih i x (by simpa using h)
    · rw [hb] at h; simp at h
theorem head_join (l : List UInt8) : joinLn [(headLn l, hasNl l)] = l.take (lnLen l) := by
  induction l with
  | nil => rfl
  | cons b l ih =>
    have e : joinLn [(headLn (b :: l), hasNl (b :: l))] = headLn (b :: l) ++ (if hasNl (b :: l) then [10] else []) := by simp [joinLn]
    have e' : joinLn [(headLn l, hasNl l)] = headLn l ++ (if hasNl l then [10] else []) := by simp [joinLn]
    rw [e, headLn_cons, hasNl_cons]
    rw [e'] at ih
    unfold lnLen at *
    rw [headLn_cons, hasNl_cons]
    cases hb : b == 10
    · simp only [Bool.false_eq_true, if_false, Bool.false_or, List.length_cons, List.cons_append]
      rw [show (headLn l).length + 1 + (if hasNl l = true then 1 else 0) = ((headLn l).length + (if hasNl l = true then 1 else 0)) + 1 by omega, List.take_succ_cons, ih]
    · have : b = 10 := by simpa using hb
      subst this
      simp

set_option maxHeartbeats 2000000 in
theorem lcut_any (A : Option Addr) (n c : Nat) (xs : List UInt8) (i : Int) (w : World) (hx : SlRep (fun b => b < w.heap.size) w A n c xs) (hi : I64 i) :
    Calls Try.prog 5 #[.slice A n c, .int .i64 i] w fun e w' => e = .returned (.bool true) ∧ Below w.heap.size w w' := by
  by_cases hn : n ≤ 300
  · have hd : decide ((300 : Int) < (n : Int)) = false := by simp; omega
    have hS := hide (show ∀ b, b < w.heap.size → b < w.heap.size from fun _ h => h)
    have hxl := hide (hx.later hS.out)
    have hl := hide hx.1
    unfold I64 at hi
    by_cases hin : 0 ≤ i ∧ i < (n : Int)
    · obtain ⟨k, rfl⟩ : ∃ k : Nat, i = (k : Int) := ⟨i.toNat, by omega⟩
      have hk : k < n := by omega
      obtain ⟨b0, o0, rfl, _, hdx⟩ := hx.dropB hk
      obtain ⟨hnc, hcm⟩ := hx.2.1
      unfold maxLen at hcm
      have q1 : decide ((k : Int) < 0) = false := by simp
      have q2 : decide ((n : Int) ≤ (k : Int)) = false := by simp; omega
      go_enter Try.func5, Try.ntmps5
      have hcu := cut_any (some ⟨b0, o0, none⟩) n c k xs w hx hS.out (by omega) hk
      have hle := lnLen_le (xs.drop k)
      have hne : xs.drop k ≠ [] := fun e => by have := congrArg List.length e; have := hl.out; simp at *; omega
      have hpos := lnLen_pos hne
      have hjn := head_join (xs.drop k)
      have hno := headLn_no (xs.drop k)
      have hnx : k + (headLn (xs.drop k)).length + (if hasNl (xs.drop k) then 1 else 0) = k + lnLen (xs.drop k) := by unfold lnLen; omega
      have hlast : hasNl (xs.drop k) = false → k + lnLen (xs.drop k) = n := fun h => by
        unfold lnLen; rw [h, headLn_all h, List.length_drop, hl.out]; simp; omega
      have hhl := headLn_le (xs.drop k)
      rw [List.length_drop, hl.out] at hle hhl
      rw [hnx] at hcu
      clear hnx hne
      have hdt := hdx.take hle
      generalize (xs.drop k).take (lnLen (xs.drop k)) = T at *
      generalize lnLen (xs.drop k) = m at *
      generalize hasNl (xs.drop k) = nl at *
      generalize headLn (xs.drop k) = hd at *
      have hdl := hide (hdt.later hS.out)
      have hTl := hide hdt.1
      clear hdx hdt
      have HC := hide hcu
      have HJ := hide hjn
      have HN := hide hno
      have HL := hide hlast
      clear hcu hjn hno hlast
      have q3 : decide (((k + m : Nat) : Int) ≤ (k : Int)) = false := by simp; omega
      have q4 : decide ((n : Int) < ((k + m : Nat) : Int)) = false := by simp; omega
      go_wp2_with (go_at_call 15; refine HC.out.mono ?_; rintro e w1 ⟨A1, c1, rfl, hown1, hb1⟩)
      have hb3 := balloc w1 (.cells #[.slice A1 hd.length c1, .bool nl] 27)
      have hbx0 : (w1.alloc (.cells #[.slice A1 hd.length c1, .bool nl] 27)).cell? ⟨w1.heap.size, 0, none⟩ = some (.slice A1 hd.length c1) := World.cell?_alloc_at _ _ _ _ rfl
      have hbx1 : (w1.alloc (.cells #[.slice A1 hd.length c1, .bool nl] 27)).cell? ⟨w1.heap.size, 1, none⟩ = some (.bool nl) := World.cell?_alloc_at _ _ _ _ rfl
      have hlt3 : w1.heap.size < (w1.alloc (.cells #[.slice A1 hd.length c1, .bool nl] 27)).heap.size := by rw [World.size_alloc]; omega
      have hsl := (sl_of_own hown1).below (fun _ h => h) hb3
      have hslt := hide (hsl.sub fun b hb => Nat.lt_of_lt_of_le hb hb3.size)
      generalize w1.alloc (.cells #[.slice A1 hd.length c1, .bool nl] 27) = w3 at *
      go_loop [8] (fun t => ∃ j : Nat, j ≤ hd.length ∧ t = .int .i64 j) (fun t => hd.length - (intOf t).toNat)
      case atStart => exact ⟨0, Nat.zero_le _, rfl⟩
      case round =>
        obtain ⟨j, hj, rfl⟩ := hrel
        by_cases hlt : j < hd.length
        · obtain ⟨b0, o0, x, hA, _, hxj, hcx⟩ := hsl.byte hlt
          have hx10 : ((x.toNat : Int) == 10) = false := by
            rw [beq_eq_false_iff_ne]; intro h; exact HN.out j x hxj (UInt8.toNat_inj.1 (by rw [show (10 : UInt8).toNat = 10 from rfl]; omega))
          have hd1 : decide ((j : Int) < (hd.length : Int)) = true := by simpa using hlt
          subst hA
          have Hx := hide hxj
          clear hxj
          go_wp2
          exact ⟨⟨j + 1, by omega, by go_num⟩, by simp [intOf]; omega⟩
        · have hd1 : decide ((j : Int) < (hd.length : Int)) = false := by simpa using hlt
          have hbw3 := bnext hb1 hb3
          have hN : SlRep (fun b => b < w3.heap.size + 1) (w3.alloc (.cells #[.slice A1 hd.length c1, .bool nl] 27)).drew (some ⟨w3.heap.size, 0, none⟩) 1 1 [(hd, nl)] := by
            have h : Own (fun b => b < w3.heap.size) (w3.alloc (.cells #[.slice A1 hd.length c1, .bool nl] 27)) w3.heap.size 27 (.slice (some ⟨w3.heap.size, 0, none⟩) 1 1) [(hd, nl)] :=
              Own.new_ w3 _ _ 1 rfl (by simp [maxLen]) (fun _ h => h) (Nat.le_refl _) (Chunks.single ⟨[_], [_], rfl, ⟨_, _, _, rfl, hslt.out.below (fun _ h => h) (balloc _ _)⟩, rfl⟩)
            have := sl_of_own h
            rw [World.size_alloc] at this
            exact this
          have hbn := (balloc w3 (.cells #[.slice A1 hd.length c1, .bool nl] 27)).drew
          have hjn := join_any _ _ _ _ _ hN (fun b hb => Nat.lt_of_lt_of_le hb (by simp [World.size_alloc])) (by omega) (by rw [HJ.out, hTl.out]; omega)
          rw [HJ.out] at hjn
          have HJN := hide hjn
          clear hN hjn
          have r0 : ¬ c = k := by omega
          have r1 : (0 : Int) ≤ (k : Int) + (m : Int) := by omega
          have r2 : (k : Int) ≤ (k : Int) + (m : Int) := by omega
          have r3 : (k : Int) + (m : Int) ≤ (c : Int) := by omega
          have r4 : ((k : Int) + (m : Int)).toNat = k + m := by omega
          have r5 : k + m - k = m := by omega
          cases nl with
          | true =>
            go_wp2_with fail
            refine wp_region_held_drew (S := (fun w' => w'.cell? ⟨w1.heap.size, 0, none⟩ = some (.slice A1 hd.length c1) ∧ w'.cell? ⟨w1.heap.size, 1, none⟩ = some (.bool true) ∧ Below w3.heap.size w3 w')) (by kernel_rfl) ?_ (fun hHeld => ?_)
            · exact ⟨hbx0, hbx1, (Below.refl _ _).drew⟩
            try simp only [List.size_toArray, List.length_cons, List.length_nil, Nat.reduceAdd, Array.replicate_succ, Array.replicate_zero, List.push_toArray, List.nil_append, List.cons_append]
            refine rtake (i := 3) (v := ?_) rfl rfl (by kernel_rfl) (by kernel_rfl) (by kernel_rfl) (fun _ _ _ h => h) (by rfl) ?_ hHeld ?_
            rotate_left
            · intro w hSw; (try dsimp only at hSw); go_simp; all_goals with_reducible rfl
            simp only [List.setIfInBounds_toArray, List.set]
            refine rtake (i := 4) (v := ?_) rfl rfl (by kernel_rfl) (by kernel_rfl) (by kernel_rfl) (fun _ _ _ h => h) (by rfl) ?_ hHeld ?_
            rotate_left
            · intro w hSw; (try dsimp only at hSw); go_simp; all_goals with_reducible rfl
            simp only [List.setIfInBounds_toArray, List.set]
            refine rtake (i := 5) (v := ?_) rfl rfl (by kernel_rfl) (by kernel_rfl) (by kernel_rfl) (fun _ _ _ h => h) (by rfl) ?_ hHeld ?_
            rotate_left
            · intro w hSw; (try dsimp only at hSw); go_simp; all_goals with_reducible rfl
            simp only [List.setIfInBounds_toArray, List.set]
            refine rtake (i := 6) (v := ?_) rfl rfl (by kernel_rfl) (by kernel_rfl) (by kernel_rfl) (fun _ _ _ h => h) (by rfl) ?_ hHeld ?_
            rotate_left
            · intro w hSw; (try dsimp only at hSw); go_simp; all_goals with_reducible rfl
            simp only [List.setIfInBounds_toArray, List.set]
            refine rtake (i := 0) (v := ?_) rfl rfl (by kernel_rfl) (by kernel_rfl) (by kernel_rfl) (fun _ _ _ h => h) (by rfl) ?_ hHeld ?_
            rotate_left
            · intro w hSw; (try dsimp only at hSw); go_simp; all_goals with_reducible rfl
            simp only [List.setIfInBounds_toArray, List.set]
            refine wpAnyH_ready (rs := [1]) (by kernel_rfl) (by simp) ?_
            refine AllReadyH.cons rfl (fun K hK => ?_) AllReadyH.nil
            go_simp
            clear hHeld
            refine hK.out _ _ ?_ (fun hHeld => ?_)
            · first | exact ⟨hq0, hq1, hb36⟩ | exact ⟨hq0, hq1, hb35⟩ | exact ⟨hq0, hq1, hb34⟩ | exact ⟨(hbn.cell (p := ⟨w1.heap.size, 0, none⟩) hlt3).trans hbx0, (hbn.cell (p := ⟨w1.heap.size, 1, none⟩) hlt3).trans hbx1, hbn⟩
            clear hK
            refine wpAnyH_ready (rs := [2]) (by kernel_rfl) (by simp) ?_
            refine AllReadyH.cons rfl (fun K hK => ?_) AllReadyH.nil
            go_simp
            first
              | (go_at_call 14; refine HJN.out.mono ?_; rintro e w4 ⟨A4, c4, rfl, hown4, hb4⟩; have hb34 := bnext hbn hb4; have hq0 := (hb34.cell (p := ⟨w1.heap.size, 0, none⟩) hlt3).trans hbx0; have hq1 := (hb34.cell (p := ⟨w1.heap.size, 1, none⟩) hlt3).trans hbx1; have hs4 := sl_of_own hown4)
              | (go_at_call 13; refine (same_eq _ _ _ _ _ _ _ _ hs4 (hdl.out _ (bnext hbw3 hb34))).mono ?_; rintro e w5 ⟨rfl, hb5⟩; have hb35 := bnext hb34 hb5; have hq0 := (hb35.cell (p := ⟨w1.heap.size, 0, none⟩) hlt3).trans hbx0; have hq1 := (hb35.cell (p := ⟨w1.heap.size, 1, none⟩) hlt3).trans hbx1)
              | (go_at_call 7; refine (awake_any _).mono ?_; rintro e w6 ⟨rfl, hb6⟩; have hb36 := bnext hb35 hb6; have hq0 := (hb36.cell (p := ⟨w1.heap.size, 0, none⟩) hlt3).trans hbx0; have hq1 := (hb36.cell (p := ⟨w1.heap.size, 1, none⟩) hlt3).trans hbx1)
            go_wp2_with fail
            clear hHeld
            refine hK.out _ _ ?_ (fun hHeld => ?_)
            · first | exact ⟨hq0, hq1, hb36⟩ | exact ⟨hq0, hq1, hb35⟩ | exact ⟨hq0, hq1, hb34⟩ | exact ⟨(hbn.cell (p := ⟨w1.heap.size, 0, none⟩) hlt3).trans hbx0, (hbn.cell (p := ⟨w1.heap.size, 1, none⟩) hlt3).trans hbx1, hbn⟩
            clear hK
            refine wpAnyH_ready (rs := [7]) (by kernel_rfl) (by simp) ?_
            refine AllReadyH.cons rfl (fun K hK => ?_) AllReadyH.nil
            go_simp
            first
              | (go_at_call 14; refine HJN.out.mono ?_; rintro e w4 ⟨A4, c4, rfl, hown4, hb4⟩; have hb34 := bnext hbn hb4; have hq0 := (hb34.cell (p := ⟨w1.heap.size, 0, none⟩) hlt3).trans hbx0; have hq1 := (hb34.cell (p := ⟨w1.heap.size, 1, none⟩) hlt3).trans hbx1; have hs4 := sl_of_own hown4)
              | (go_at_call 13; refine (same_eq _ _ _ _ _ _ _ _ hs4 (hdl.out _ (bnext hbw3 hb34))).mono ?_; rintro e w5 ⟨rfl, hb5⟩; have hb35 := bnext hb34 hb5; have hq0 := (hb35.cell (p := ⟨w1.heap.size, 0, none⟩) hlt3).trans hbx0; have hq1 := (hb35.cell (p := ⟨w1.heap.size, 1, none⟩) hlt3).trans hbx1)
              | (go_at_call 7; refine (awake_any _).mono ?_; rintro e w6 ⟨rfl, hb6⟩; have hb36 := bnext hb35 hb6; have hq0 := (hb36.cell (p := ⟨w1.heap.size, 0, none⟩) hlt3).trans hbx0; have hq1 := (hb36.cell (p := ⟨w1.heap.size, 1, none⟩) hlt3).trans hbx1)
            go_wp2_with fail
            clear hHeld
            refine hK.out _ _ ?_ (fun hHeld => ?_)
            · first | exact ⟨hq0, hq1, hb36⟩ | exact ⟨hq0, hq1, hb35⟩ | exact ⟨hq0, hq1, hb34⟩ | exact ⟨(hbn.cell (p := ⟨w1.heap.size, 0, none⟩) hlt3).trans hbx0, (hbn.cell (p := ⟨w1.heap.size, 1, none⟩) hlt3).trans hbx1, hbn⟩
            clear hK
            refine rtake (i := 8) (v := ?_) rfl rfl (by kernel_rfl) (by kernel_rfl) (by kernel_rfl) (fun _ _ _ h => h) (by rfl) ?_ hHeld ?_
            rotate_left
            · intro w hSw; (try dsimp only at hSw); go_simp; all_goals with_reducible rfl
            simp only [List.setIfInBounds_toArray, List.set]
            refine rtake (i := 9) (v := ?_) rfl rfl (by kernel_rfl) (by kernel_rfl) (by kernel_rfl) (fun _ _ _ h => h) (by rfl) ?_ hHeld ?_
            rotate_left
            · intro w hSw; (try dsimp only at hSw); go_simp; all_goals with_reducible rfl
            simp only [List.setIfInBounds_toArray, List.set]
            refine rtake (i := 10) (v := ?_) rfl rfl (by kernel_rfl) (by kernel_rfl) (by kernel_rfl) (fun _ _ _ h => h) (by rfl) ?_ hHeld ?_
            rotate_left
            · intro w hSw; (try dsimp only at hSw); go_simp; all_goals with_reducible rfl
            simp only [List.setIfInBounds_toArray, List.set]
            refine rtake (i := 11) (v := ?_) rfl rfl (by kernel_rfl) (by kernel_rfl) (by kernel_rfl) (fun _ _ _ h => h) (by rfl) ?_ hHeld ?_
            rotate_left
            · intro w hSw; (try dsimp only at hSw); go_simp; all_goals with_reducible rfl
            simp only [List.setIfInBounds_toArray, List.set]
            refine rskip (i := 12) rfl rfl (by kernel_rfl) (by kernel_rfl) (by kernel_rfl) (fun _ _ _ h => h) (by rfl) hHeld ?_
            simp only [List.setIfInBounds_toArray, List.set]
            refine rskip (i := 13) rfl rfl (by kernel_rfl) (by kernel_rfl) (by kernel_rfl) (fun _ _ _ h => h) (by rfl) hHeld ?_
            simp only [List.setIfInBounds_toArray, List.set]
            refine rskip (i := 14) rfl rfl (by kernel_rfl) (by kernel_rfl) (by kernel_rfl) (fun _ _ _ h => h) (by rfl) hHeld ?_
            simp only [List.setIfInBounds_toArray, List.set]
            refine rskip (i := 15) rfl rfl (by kernel_rfl) (by kernel_rfl) (by kernel_rfl) (fun _ _ _ h => h) (by rfl) hHeld ?_
            simp only [List.setIfInBounds_toArray, List.set]
            refine rtake (i := 16) (v := ?_) rfl rfl (by kernel_rfl) (by kernel_rfl) (by kernel_rfl) (fun _ _ _ h => h) (by rfl) ?_ hHeld ?_
            rotate_left
            · intro w hSw; (try dsimp only at hSw); go_simp; all_goals with_reducible rfl
            simp only [List.setIfInBounds_toArray, List.set]
            refine rtake (i := 17) (v := ?_) rfl rfl (by kernel_rfl) (by kernel_rfl) (by kernel_rfl) (fun _ _ _ h => h) (by rfl) ?_ hHeld ?_
            rotate_left
            · intro w hSw; (try dsimp only at hSw); go_simp; all_goals with_reducible rfl
            simp only [List.setIfInBounds_toArray, List.set]
            refine rtake (i := 18) (v := ?_) rfl rfl (by kernel_rfl) (by kernel_rfl) (by kernel_rfl) (fun _ _ _ h => h) (by rfl) ?_ hHeld ?_
            rotate_left
            · intro w hSw; (try dsimp only at hSw); go_simp; all_goals with_reducible rfl
            simp only [List.setIfInBounds_toArray, List.set]
            refine wpAnyH_ready (rs := [19]) (by kernel_rfl) (by simp) ?_
            refine AllReadyH.cons rfl (fun K hK => ?_) AllReadyH.nil
            go_simp
            first
              | (go_at_call 14; refine HJN.out.mono ?_; rintro e w4 ⟨A4, c4, rfl, hown4, hb4⟩; have hb34 := bnext hbn hb4; have hq0 := (hb34.cell (p := ⟨w1.heap.size, 0, none⟩) hlt3).trans hbx0; have hq1 := (hb34.cell (p := ⟨w1.heap.size, 1, none⟩) hlt3).trans hbx1; have hs4 := sl_of_own hown4)
              | (go_at_call 13; refine (same_eq _ _ _ _ _ _ _ _ hs4 (hdl.out _ (bnext hbw3 hb34))).mono ?_; rintro e w5 ⟨rfl, hb5⟩; have hb35 := bnext hb34 hb5; have hq0 := (hb35.cell (p := ⟨w1.heap.size, 0, none⟩) hlt3).trans hbx0; have hq1 := (hb35.cell (p := ⟨w1.heap.size, 1, none⟩) hlt3).trans hbx1)
              | (go_at_call 7; refine (awake_any _).mono ?_; rintro e w6 ⟨rfl, hb6⟩; have hb36 := bnext hb35 hb6; have hq0 := (hb36.cell (p := ⟨w1.heap.size, 0, none⟩) hlt3).trans hbx0; have hq1 := (hb36.cell (p := ⟨w1.heap.size, 1, none⟩) hlt3).trans hbx1)
            go_wp2_with fail
            clear hHeld
            refine hK.out _ _ ?_ (fun hHeld => ?_)
            · first | exact ⟨hq0, hq1, hb36⟩ | exact ⟨hq0, hq1, hb35⟩ | exact ⟨hq0, hq1, hb34⟩ | exact ⟨(hbn.cell (p := ⟨w1.heap.size, 0, none⟩) hlt3).trans hbx0, (hbn.cell (p := ⟨w1.heap.size, 1, none⟩) hlt3).trans hbx1, hbn⟩
            clear hK
            refine rtake (i := 20) (v := ?_) rfl rfl (by kernel_rfl) (by kernel_rfl) (by kernel_rfl) (fun _ _ _ h => h) (by rfl) ?_ hHeld ?_
            rotate_left
            · intro w hSw; (try dsimp only at hSw); go_simp; all_goals with_reducible rfl
            simp only [List.setIfInBounds_toArray, List.set]
            refine rtake (i := 21) (v := ?_) rfl rfl (by kernel_rfl) (by kernel_rfl) (by kernel_rfl) (fun _ _ _ h => h) (by rfl) ?_ hHeld ?_
            rotate_left
            · intro w hSw; (try dsimp only at hSw); go_simp; all_goals with_reducible rfl
            simp only [List.setIfInBounds_toArray, List.set]
            refine wpAnyH_done (by kernel_rfl) ?_ _
            go_wp2
            go_ret
            exact ⟨rfl, bnext hbw3 hb36⟩
          | false =>
            have r6 : ((k : Int) + (m : Int) == (n : Int)) = true := by rw [beq_iff_eq]; have := HL.out rfl; omega
            go_wp2_with fail
            refine wp_region_held_drew (S := (fun w' => w'.cell? ⟨w1.heap.size, 0, none⟩ = some (.slice A1 hd.length c1) ∧ w'.cell? ⟨w1.heap.size, 1, none⟩ = some (.bool false) ∧ Below w3.heap.size w3 w')) (by kernel_rfl) ?_ (fun hHeld => ?_)
            · exact ⟨hbx0, hbx1, (Below.refl _ _).drew⟩
            try simp only [List.size_toArray, List.length_cons, List.length_nil, Nat.reduceAdd, Array.replicate_succ, Array.replicate_zero, List.push_toArray, List.nil_append, List.cons_append]
            refine rtake (i := 3) (v := ?_) rfl rfl (by kernel_rfl) (by kernel_rfl) (by kernel_rfl) (fun _ _ _ h => h) (by rfl) ?_ hHeld ?_
            rotate_left
            · intro w hSw; (try dsimp only at hSw); go_simp; all_goals with_reducible rfl
            simp only [List.setIfInBounds_toArray, List.set]
            refine rtake (i := 4) (v := ?_) rfl rfl (by kernel_rfl) (by kernel_rfl) (by kernel_rfl) (fun _ _ _ h => h) (by rfl) ?_ hHeld ?_
            rotate_left
            · intro w hSw; (try dsimp only at hSw); go_simp; all_goals with_reducible rfl
            simp only [List.setIfInBounds_toArray, List.set]
            refine rtake (i := 5) (v := ?_) rfl rfl (by kernel_rfl) (by kernel_rfl) (by kernel_rfl) (fun _ _ _ h => h) (by rfl) ?_ hHeld ?_
            rotate_left
            · intro w hSw; (try dsimp only at hSw); go_simp; all_goals with_reducible rfl
            simp only [List.setIfInBounds_toArray, List.set]
            refine rtake (i := 6) (v := ?_) rfl rfl (by kernel_rfl) (by kernel_rfl) (by kernel_rfl) (fun _ _ _ h => h) (by rfl) ?_ hHeld ?_
            rotate_left
            · intro w hSw; (try dsimp only at hSw); go_simp; all_goals with_reducible rfl
            simp only [List.setIfInBounds_toArray, List.set]
            refine rtake (i := 0) (v := ?_) rfl rfl (by kernel_rfl) (by kernel_rfl) (by kernel_rfl) (fun _ _ _ h => h) (by rfl) ?_ hHeld ?_
            rotate_left
            · intro w hSw; (try dsimp only at hSw); go_simp; all_goals with_reducible rfl
            simp only [List.setIfInBounds_toArray, List.set]
            refine wpAnyH_ready (rs := [1]) (by kernel_rfl) (by simp) ?_
            refine AllReadyH.cons rfl (fun K hK => ?_) AllReadyH.nil
            go_simp
            clear hHeld
            refine hK.out _ _ ?_ (fun hHeld => ?_)
            · first | exact ⟨hq0, hq1, hb36⟩ | exact ⟨hq0, hq1, hb35⟩ | exact ⟨hq0, hq1, hb34⟩ | exact ⟨(hbn.cell (p := ⟨w1.heap.size, 0, none⟩) hlt3).trans hbx0, (hbn.cell (p := ⟨w1.heap.size, 1, none⟩) hlt3).trans hbx1, hbn⟩
            clear hK
            refine wpAnyH_ready (rs := [2]) (by kernel_rfl) (by simp) ?_
            refine AllReadyH.cons rfl (fun K hK => ?_) AllReadyH.nil
            go_simp
            first
              | (go_at_call 14; refine HJN.out.mono ?_; rintro e w4 ⟨A4, c4, rfl, hown4, hb4⟩; have hb34 := bnext hbn hb4; have hq0 := (hb34.cell (p := ⟨w1.heap.size, 0, none⟩) hlt3).trans hbx0; have hq1 := (hb34.cell (p := ⟨w1.heap.size, 1, none⟩) hlt3).trans hbx1; have hs4 := sl_of_own hown4)
              | (go_at_call 13; refine (same_eq _ _ _ _ _ _ _ _ hs4 (hdl.out _ (bnext hbw3 hb34))).mono ?_; rintro e w5 ⟨rfl, hb5⟩; have hb35 := bnext hb34 hb5; have hq0 := (hb35.cell (p := ⟨w1.heap.size, 0, none⟩) hlt3).trans hbx0; have hq1 := (hb35.cell (p := ⟨w1.heap.size, 1, none⟩) hlt3).trans hbx1)
              | (go_at_call 7; refine (awake_any _).mono ?_; rintro e w6 ⟨rfl, hb6⟩; have hb36 := bnext hb35 hb6; have hq0 := (hb36.cell (p := ⟨w1.heap.size, 0, none⟩) hlt3).trans hbx0; have hq1 := (hb36.cell (p := ⟨w1.heap.size, 1, none⟩) hlt3).trans hbx1)
            go_wp2_with fail
            clear hHeld
            refine hK.out _ _ ?_ (fun hHeld => ?_)
            · first | exact ⟨hq0, hq1, hb36⟩ | exact ⟨hq0, hq1, hb35⟩ | exact ⟨hq0, hq1, hb34⟩ | exact ⟨(hbn.cell (p := ⟨w1.heap.size, 0, none⟩) hlt3).trans hbx0, (hbn.cell (p := ⟨w1.heap.size, 1, none⟩) hlt3).trans hbx1, hbn⟩
            clear hK
            refine wpAnyH_ready (rs := [7]) (by kernel_rfl) (by simp) ?_
            refine AllReadyH.cons rfl (fun K hK => ?_) AllReadyH.nil
            go_simp
            first
              | (go_at_call 14; refine HJN.out.mono ?_; rintro e w4 ⟨A4, c4, rfl, hown4, hb4⟩; have hb34 := bnext hbn hb4; have hq0 := (hb34.cell (p := ⟨w1.heap.size, 0, none⟩) hlt3).trans hbx0; have hq1 := (hb34.cell (p := ⟨w1.heap.size, 1, none⟩) hlt3).trans hbx1; have hs4 := sl_of_own hown4)
              | (go_at_call 13; refine (same_eq _ _ _ _ _ _ _ _ hs4 (hdl.out _ (bnext hbw3 hb34))).mono ?_; rintro e w5 ⟨rfl, hb5⟩; have hb35 := bnext hb34 hb5; have hq0 := (hb35.cell (p := ⟨w1.heap.size, 0, none⟩) hlt3).trans hbx0; have hq1 := (hb35.cell (p := ⟨w1.heap.size, 1, none⟩) hlt3).trans hbx1)
              | (go_at_call 7; refine (awake_any _).mono ?_; rintro e w6 ⟨rfl, hb6⟩; have hb36 := bnext hb35 hb6; have hq0 := (hb36.cell (p := ⟨w1.heap.size, 0, none⟩) hlt3).trans hbx0; have hq1 := (hb36.cell (p := ⟨w1.heap.size, 1, none⟩) hlt3).trans hbx1)
            go_wp2_with fail
            clear hHeld
            refine hK.out _ _ ?_ (fun hHeld => ?_)
            · first | exact ⟨hq0, hq1, hb36⟩ | exact ⟨hq0, hq1, hb35⟩ | exact ⟨hq0, hq1, hb34⟩ | exact ⟨(hbn.cell (p := ⟨w1.heap.size, 0, none⟩) hlt3).trans hbx0, (hbn.cell (p := ⟨w1.heap.size, 1, none⟩) hlt3).trans hbx1, hbn⟩
            clear hK
            refine rtake (i := 8) (v := ?_) rfl rfl (by kernel_rfl) (by kernel_rfl) (by kernel_rfl) (fun _ _ _ h => h) (by rfl) ?_ hHeld ?_
            rotate_left
            · intro w hSw; (try dsimp only at hSw); go_simp; all_goals with_reducible rfl
            simp only [List.setIfInBounds_toArray, List.set]
            refine rtake (i := 9) (v := ?_) rfl rfl (by kernel_rfl) (by kernel_rfl) (by kernel_rfl) (fun _ _ _ h => h) (by rfl) ?_ hHeld ?_
            rotate_left
            · intro w hSw; (try dsimp only at hSw); go_simp; all_goals with_reducible rfl
            simp only [List.setIfInBounds_toArray, List.set]
            refine rtake (i := 10) (v := ?_) rfl rfl (by kernel_rfl) (by kernel_rfl) (by kernel_rfl) (fun _ _ _ h => h) (by rfl) ?_ hHeld ?_
            rotate_left
            · intro w hSw; (try dsimp only at hSw); go_simp; all_goals with_reducible rfl
            simp only [List.setIfInBounds_toArray, List.set]
            refine rtake (i := 11) (v := ?_) rfl rfl (by kernel_rfl) (by kernel_rfl) (by kernel_rfl) (fun _ _ _ h => h) (by rfl) ?_ hHeld ?_
            rotate_left
            · intro w hSw; (try dsimp only at hSw); go_simp; all_goals with_reducible rfl
            simp only [List.setIfInBounds_toArray, List.set]
            refine rtake (i := 12) (v := ?_) rfl rfl (by kernel_rfl) (by kernel_rfl) (by kernel_rfl) (fun _ _ _ h => h) (by rfl) ?_ hHeld ?_
            rotate_left
            · intro w hSw; (try dsimp only at hSw); go_simp; all_goals with_reducible rfl
            simp only [List.setIfInBounds_toArray, List.set]
            refine rtake (i := 13) (v := ?_) rfl rfl (by kernel_rfl) (by kernel_rfl) (by kernel_rfl) (fun _ _ _ h => h) (by rfl) ?_ hHeld ?_
            rotate_left
            · intro w hSw; (try dsimp only at hSw); go_simp; all_goals with_reducible rfl
            simp only [List.setIfInBounds_toArray, List.set]
            refine rtake (i := 14) (v := ?_) rfl rfl (by kernel_rfl) (by kernel_rfl) (by kernel_rfl) (fun _ _ _ h => h) (by rfl) ?_ hHeld ?_
            rotate_left
            · intro w hSw; (try dsimp only at hSw); go_simp; all_goals with_reducible rfl
            simp only [List.setIfInBounds_toArray, List.set]
            refine rtake (i := 15) (v := ?_) rfl rfl (by kernel_rfl) (by kernel_rfl) (by kernel_rfl) (fun _ _ _ h => h) (by rfl) ?_ hHeld ?_
            rotate_left
            · intro w hSw; (try dsimp only at hSw); go_simp; all_goals with_reducible rfl
            simp only [List.setIfInBounds_toArray, List.set]
            refine rtake (i := 16) (v := ?_) rfl rfl (by kernel_rfl) (by kernel_rfl) (by kernel_rfl) (fun _ _ _ h => h) (by rfl) ?_ hHeld ?_
            rotate_left
            · intro w hSw; (try dsimp only at hSw); go_simp; all_goals with_reducible rfl
            simp only [List.setIfInBounds_toArray, List.set]
            refine rtake (i := 17) (v := ?_) rfl rfl (by kernel_rfl) (by kernel_rfl) (by kernel_rfl) (fun _ _ _ h => h) (by rfl) ?_ hHeld ?_
            rotate_left
            · intro w hSw; (try dsimp only at hSw); go_simp; all_goals with_reducible rfl
            simp only [List.setIfInBounds_toArray, List.set]
            refine rtake (i := 18) (v := ?_) rfl rfl (by kernel_rfl) (by kernel_rfl) (by kernel_rfl) (fun _ _ _ h => h) (by rfl) ?_ hHeld ?_
            rotate_left
            · intro w hSw; (try dsimp only at hSw); go_simp; all_goals with_reducible rfl
            simp only [List.setIfInBounds_toArray, List.set]
            refine wpAnyH_ready (rs := [19]) (by kernel_rfl) (by simp) ?_
            refine AllReadyH.cons rfl (fun K hK => ?_) AllReadyH.nil
            go_simp
            first
              | (go_at_call 14; refine HJN.out.mono ?_; rintro e w4 ⟨A4, c4, rfl, hown4, hb4⟩; have hb34 := bnext hbn hb4; have hq0 := (hb34.cell (p := ⟨w1.heap.size, 0, none⟩) hlt3).trans hbx0; have hq1 := (hb34.cell (p := ⟨w1.heap.size, 1, none⟩) hlt3).trans hbx1; have hs4 := sl_of_own hown4)
              | (go_at_call 13; refine (same_eq _ _ _ _ _ _ _ _ hs4 (hdl.out _ (bnext hbw3 hb34))).mono ?_; rintro e w5 ⟨rfl, hb5⟩; have hb35 := bnext hb34 hb5; have hq0 := (hb35.cell (p := ⟨w1.heap.size, 0, none⟩) hlt3).trans hbx0; have hq1 := (hb35.cell (p := ⟨w1.heap.size, 1, none⟩) hlt3).trans hbx1)
              | (go_at_call 7; refine (awake_any _).mono ?_; rintro e w6 ⟨rfl, hb6⟩; have hb36 := bnext hb35 hb6; have hq0 := (hb36.cell (p := ⟨w1.heap.size, 0, none⟩) hlt3).trans hbx0; have hq1 := (hb36.cell (p := ⟨w1.heap.size, 1, none⟩) hlt3).trans hbx1)
            go_wp2_with fail
            clear hHeld
            refine hK.out _ _ ?_ (fun hHeld => ?_)
            · first | exact ⟨hq0, hq1, hb36⟩ | exact ⟨hq0, hq1, hb35⟩ | exact ⟨hq0, hq1, hb34⟩ | exact ⟨(hbn.cell (p := ⟨w1.heap.size, 0, none⟩) hlt3).trans hbx0, (hbn.cell (p := ⟨w1.heap.size, 1, none⟩) hlt3).trans hbx1, hbn⟩
            clear hK
            refine rtake (i := 20) (v := ?_) rfl rfl (by kernel_rfl) (by kernel_rfl) (by kernel_rfl) (fun _ _ _ h => h) (by rfl) ?_ hHeld ?_
            rotate_left
            · intro w hSw; (try dsimp only at hSw); go_simp; all_goals with_reducible rfl
            simp only [List.setIfInBounds_toArray, List.set]
            refine rtake (i := 21) (v := ?_) rfl rfl (by kernel_rfl) (by kernel_rfl) (by kernel_rfl) (fun _ _ _ h => h) (by rfl) ?_ hHeld ?_
            rotate_left
            · intro w hSw; (try dsimp only at hSw); go_simp; all_goals with_reducible rfl
            simp only [List.setIfInBounds_toArray, List.set]
            refine wpAnyH_done (by kernel_rfl) ?_ _
            go_wp2
            go_ret
            exact ⟨rfl, bnext hbw3 hb36⟩
    · have hq1 : (decide (i < 0) = false ∧ decide ((n : Int) ≤ i) = true) ∨ decide (i < 0) = true := by
        simp only [decide_eq_true_eq, decide_eq_false_iff_not]; omega
      rcases hq1 with ⟨hq1, hq2⟩ | hq1
      all_goals
        go_enter Try.func5, Try.ntmps5
        go_wp2_with (first
          | (go_at_call 15; refine (cut_none _ _ _ _ _ (by omega)).mono ?_; rintro e w1 ⟨rfl, hb1⟩)
          | (go_at_call 7; refine (awake_any _).mono ?_; rintro e w2 ⟨rfl, hb2⟩))
        go_ret
        exact ⟨rfl, bnext (bnext hb1 (balloc _ _)) hb2⟩
  · have hd : decide ((300 : Int) < (n : Int)) = true := by simp; omega
    go_enter Try.func5, Try.ntmps5
    go_wp2_with (go_at_call 7; refine (awake_any _).mono ?_; rintro e w1 ⟨rfl, hb⟩)
    go_ret
    exact ⟨rfl, hb⟩
end Go.Proofs.Ytamlifoakcoikaa
