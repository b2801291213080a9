/- The walk of palinoderef01.Same: it tells whether two lists of bytes are equal, and only draws. -/
import Derived.Test.YtamlifoakcoikaaRows
import Derived.Test.YtamlifoakcoikaaMem
import Derived.WalkKit
import Derived.WalkSpells
import Derived.WalkLawsBesides
import Derived.Deep.QuietTactic
import Derived.BigQuiet
namespace Go.Proofs.Ytamlifoakcoikaa
open Go.RowKit

theorem ret_bool {a b : Bool} (h : a = b) : Ending.returned (.bool a) = .returned (.bool b) := by rw [h]

set_option maxHeartbeats 400000 in
theorem same_any {S T : Nat → Prop} (A B : Option Addr) (n m c d : Nat) (xs ys : List UInt8) (w : World) (hx : SlRep S w A n c xs) (hy : SlRep T w B m d ys) :
    Calls Try.prog 13 #[.slice A n c, .slice B m d] w fun e w' => e = .returned (.bool (decide (xs = ys))) ∧ ∃ k, w' = w.drewN k := by
  obtain ⟨hn, hn'⟩ := hx.2.1
  obtain ⟨hm, hm'⟩ := hy.2.1
  unfold maxLen at hn' hm'
  have hn : n ≤ 9223372036854775807 := by omega
  have hm : m ≤ 9223372036854775807 := by omega
  clear hn' hm'
  by_cases hnm : n = m
  · subst hnm
    have hne : ((n : Int) != (n : Int)) = false := by simp
    go_enter Try.func13, Try.ntmps13
    go_wp2
    go_loopw [5] (fun i wr => ∃ k q : Nat, k ≤ n ∧ i = .int .i64 k ∧ wr = w.drewN q ∧ ∀ j, j < k → xs[j]? = ys[j]?) (fun i _ => n - (intOf i).toNat)
    case atStart => exact ⟨0, 0, Nat.zero_le _, rfl, rfl, fun j hj => absurd hj (by omega)⟩
    case round =>
      obtain ⟨k, q, hk, rfl, rfl, hall⟩ := hrel
      have H := hide hall
      clear hall
      by_cases hlt : k < n
      · obtain ⟨bx, ox, x, rfl, _, hxk, hcx⟩ := hx.byte hlt
        obtain ⟨by', oy, y, rfl, _, hyk, hcy⟩ := hy.byte hlt
        have Hx := hide hxk
        have Hy := hide hyk
        clear hxk hyk
        have hd1 : decide ((k : Int) < (n : Int)) = true := by simpa using hlt
        by_cases he : x = y
        · subst he
          have hbe : ((x.toNat : Int) != (x.toNat : Int)) = false := by simp
          go_wp2
          go_quiet (fail)
          go_wp2
          exact ⟨⟨k + 1, _, by omega, by go_num, rfl, fun j hj => by
            rcases Nat.lt_or_ge j k with h | h
            · exact H.out j h
            · rw [show j = k by omega, Hx.out, Hy.out]⟩, by simp [intOf]; omega⟩
        · have hbe : ((x.toNat : Int) != (y.toNat : Int)) = true := by
            rw [bne_iff_ne]; intro h; exact he (UInt8.toNat_inj.1 (by omega))
          have He := hide he
          clear he
          go_wp2
          go_quiet (fail)
          go_wp2
          go_ret
          refine ⟨ret_bool ?_, _, World.drewN_drewN _ _ _⟩
          symm
          rw [decide_eq_false_iff_not]; rintro rfl; exact He.out (by have h1 := Hx.out; have h2 := Hy.out; rw [h1] at h2; exact Option.some.inj h2)
      · have hd1 : decide ((k : Int) < (n : Int)) = false := by simpa using hlt
        go_wp2
        go_ret
        refine ⟨ret_bool ?_, _, rfl⟩
        symm
        rw [decide_eq_true_eq]
        apply List.ext_getElem?
        intro j
        rcases Nat.lt_or_ge j k with h | h
        · exact H.out j h
        · rw [List.getElem?_eq_none (by have := hx.1; omega), List.getElem?_eq_none (by have := hy.1; omega)]
  · have hne : ((n : Int) != (m : Int)) = true := by simp; omega
    have hxy : decide (xs = ys) = false := by
      simp only [decide_eq_false_iff_not]; rintro rfl; exact hnm (hx.1.symm.trans hy.1)
    go_enter Try.func13, Try.ntmps13
    go_wp2
    go_ret
    exact ⟨ret_bool hxy.symm, 0, rfl⟩
/-- .. of which the new world is not told. -/
theorem same_bel {S T : Nat → Prop} (A B : Option Addr) (n m c d : Nat) (xs ys : List UInt8) (w : World) (hx : SlRep S w A n c xs) (hy : SlRep T w B m d ys) :
    Calls Try.prog 13 #[.slice A n c, .slice B m d] w fun e w' => e = .returned (.bool (decide (xs = ys))) ∧ Below w.heap.size w w' :=
  (same_any A B n m c d xs ys w hx hy).mono fun _ _ ⟨h, k, hk⟩ => ⟨h, hk ▸ below_drewN (Below.refl _ _) k⟩
theorem same_eq {S T : Nat → Prop} (A B : Option Addr) (n m c d : Nat) (xs : List UInt8) (w : World) (hx : SlRep S w A n c xs) (hy : SlRep T w B m d xs) :
    Calls Try.prog 13 #[.slice A n c, .slice B m d] w fun e w' => e = .returned (.bool true) ∧ Below w.heap.size w w' := by
  have := same_bel A B n m c d xs xs w hx hy
  rwa [decide_eq_true rfl] at this
end Go.Proofs.Ytamlifoakcoikaa
