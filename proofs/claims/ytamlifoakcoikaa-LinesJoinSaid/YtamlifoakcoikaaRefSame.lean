/- The walk of palinoderef02.Same: it tells whether two lists of lines are equal, and only draws. -/
import Derived.Test.YtamlifoakcoikaaRefSplit
namespace Go.Proofs.Ytamlifoakcoikaa
open Go.RowKit

set_option maxHeartbeats 400000 in
theorem sameLn_any {S T : Nat → Prop} (A B : Option Addr) (n m c d : Nat) (xs ys : List (List UInt8 × Bool)) (w : World) (hx : SlRep S w A n c xs) (hy : SlRep T w B m d ys) :
    Calls Try.prog 10 #[.slice A n c, .slice B m d] w fun e w' => e = .returned (.bool (decide (xs = ys))) ∧ ∃ k, w' = w.drewN k := by
  obtain ⟨hn, hn'⟩ := hx.2.1
  obtain ⟨hm, hm'⟩ := hy.2.1
  unfold maxLen at hn' hm'
  have hn : n ≤ 9223372036854775807 := by omega
  have hm : m ≤ 9223372036854775807 := by omega
  clear hn' hm'
  by_cases hnm : n = m
  · subst hnm
    have hne : ((n : Int) != (n : Int)) = false := by simp
    go_enter Try.func10, Try.ntmps10
    go_wp2
    go_loopw [5] (fun i wr => ∃ k q : Nat, k ≤ n ∧ i = .int .i64 k ∧ wr = w.drewN q ∧ ∀ j, j < k → xs[j]? = ys[j]?) (fun i _ => n - (intOf i).toNat)
    case atStart => exact ⟨0, 0, Nat.zero_le _, rfl, rfl, fun j hj => absurd hj (by omega)⟩
    case round =>
      obtain ⟨k, q, hk, rfl, hwr, hall⟩ := hrel
      have hx1 : SlRep S wr A n c xs := by rw [hwr]; exact hx
      have hy1 : SlRep T wr B n d ys := by rw [hwr]; exact hy
      have H := hide hall
      have HW := hide hwr
      clear hall hwr
      by_cases hlt : k < n
      · obtain ⟨bx, ox, hd, nl, Ax, cx, rfl, _, hxk, hcx0, hcx1, hsx⟩ := hx1.line hlt
        obtain ⟨by', oy, hd', nl', Ay, cy, rfl, _, hyk, hcy0, hcy1, hsy⟩ := hy1.line hlt
        have Hx := hide hxk
        have Hy := hide hyk
        clear hxk hyk
        have hd1 : decide ((k : Int) < (n : Int)) = true := by simpa using hlt
        have hdx : Hid (nl = nl' → hd = hd' → xs[k]? = ys[k]?) := fun h1 h2 => by rw [Hx.out, Hy.out, h1, h2]
        have hdn : Hid (¬ (nl = nl' ∧ hd = hd') → xs ≠ ys) := fun h e => by
          subst e
          have h1 := Hx.out
          rw [Hy.out] at h1
          injection h1 with h1
          injection h1 with h1 h2
          exact h ⟨h2.symm, h1.symm⟩
        have hcall := fun W (hW : ∃ r, W = wr.drewN r) => same_any Ax Ay hd.length hd'.length cx cy hd hd' W (S := S) (T := T) (by obtain ⟨r, rfl⟩ := hW; exact hsx) (by obtain ⟨r, rfl⟩ := hW; exact hsy)
        have HC := hide hcall
        clear hcall
        cases nl <;> cases nl'
        case false.true | true.false =>
          go_wp2
          go_quiet (fail)
          go_wp2
          go_ret
          refine ⟨ret_bool ?_, _, by rw [HW.out, World.drewN_drewN]⟩
          symm
          rw [decide_eq_false_iff_not]
          exact hdn.out (by simp)
        case false.false | true.true =>
          by_cases he : hd = hd'
          · have hq : decide (hd = hd') = true := by simpa using he
            rw [hq] at HC
            have HE := hide he
            clear he hq
            go_wp2
            go_quiet ((go_at_call 13; exact Calls.quiet_of (HC.out _ ⟨_, rfl⟩)))
            go_wp2
            exact ⟨⟨k + 1, q + _, by omega, by go_num, by rw [HW.out, World.drewN_drewN], fun j hj => by
              rcases Nat.lt_or_ge j k with h | h
              · exact H.out j h
              · rw [show j = k by omega]; exact hdx.out (by trivial) HE.out⟩, by simp [intOf]; omega⟩
          · have hq : decide (hd = hd') = false := by simpa using he
            rw [hq] at HC
            have HE := hide he
            clear he hq
            go_wp2
            go_quiet ((go_at_call 13; exact Calls.quiet_of (HC.out _ ⟨_, rfl⟩)))
            go_wp2
            go_ret
            refine ⟨ret_bool ?_, _, by rw [HW.out, World.drewN_drewN]⟩
            symm
            rw [decide_eq_false_iff_not]
            exact hdn.out (fun h => HE.out h.2)
      · have hd1 : decide ((k : Int) < (n : Int)) = false := by simpa using hlt
        go_wp2
        go_ret
        refine ⟨ret_bool ?_, _, HW.out⟩
        symm
        rw [decide_eq_true_eq]
        apply List.ext_getElem?
        intro j
        rcases Nat.lt_or_ge j k with h | h
        · exact H.out j h
        · rw [List.getElem?_eq_none (by have := hx.1; omega), List.getElem?_eq_none (by have := hy.1; omega)]
  · have hne : ((n : Int) != (m : Int)) = true := by simp; omega
    have hxy : decide (xs = ys) = false := by
      simp only [decide_eq_false_iff_not]; rintro rfl; exact hnm (hx.1.symm.trans hy.1)
    go_enter Try.func10, Try.ntmps10
    go_wp2
    go_ret
    exact ⟨ret_bool hxy.symm, 0, rfl⟩
theorem sameLn_eq {S T : Nat → Prop} (A B : Option Addr) (n m c d : Nat) (xs : List (List UInt8 × Bool)) (w : World) (hx : SlRep S w A n c xs) (hy : SlRep T w B m d xs) :
    Calls Try.prog 10 #[.slice A n c, .slice B m d] w fun e w' => e = .returned (.bool true) ∧ Below w.heap.size w w' := by
  have := sameLn_any A B n m c d xs xs w hx hy
  rw [decide_eq_true rfl] at this
  exact this.mono fun _ _ ⟨h, k, hk⟩ => ⟨h, hk ▸ below_drewN (Below.refl _ _) k⟩
end Go.Proofs.Ytamlifoakcoikaa
