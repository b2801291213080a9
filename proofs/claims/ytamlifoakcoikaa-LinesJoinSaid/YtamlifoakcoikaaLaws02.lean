/- The walks of the laws on lines. -/
import Derived.Test.YtamlifoakcoikaaNth
import Derived.Test.YtamlifoakcoikaaOpen
namespace Go.Proofs.Ytamlifoakcoikaa
open Go.RowKit

theorem opens_bytes : Opens Try.prog (List UInt8) 22 := opens_list Try.underlying22 (by kernel_rfl) (by decide) (opens_u8 Try.underlying5)
theorem opens_line : Opens Try.prog (List UInt8 × Bool) 27 :=
  opens_struct (show Try.prog.underlying 27 = some (.struct _) by rw [Try.underlying27]) (by kernel_rfl)
    (opensF_cons rfl (by kernel_rfl) opens_bytes (opensF_one rfl (by kernel_rfl) (opens_bool Try.underlying4)))
theorem opens_lines : Opens Try.prog (List (List UInt8 × Bool)) 24 := opens_list Try.underlying24 (by kernel_rfl) (by decide) opens_line

theorem joinLn_split : ∀ l : List UInt8, joinLn (splitLn l) = l
  | [] => rfl
  | b :: l => by
    have ih := joinLn_split l
    rw [splitLn]
    cases hb : b == 10
    · cases hs : splitLn l with
      | nil =>
        have hl : l = [] := by
          cases l with
          | nil => rfl
          | cons a l => rw [splitLn_eq _ (by simp)] at hs; cases hs
        subst hl; rfl
      | cons x t =>
        obtain ⟨h, nl⟩ := x
        rw [hs] at ih
        simp [joinLn] at ih ⊢
        exact ih
    · have : b = 10 := by simpa using hb
      subst this
      simp [joinLn] at ih ⊢
      exact ih

set_option maxHeartbeats 400000 in
theorem back_any (A : Option Addr) (n c : Nat) (xs : List UInt8) (w : World) (hx : SlRep (fun b => b < w.heap.size) w A n c xs) :
    Calls Try.prog 4 #[.slice A n c] w fun e w' => e = .returned (.bool true) ∧ Below w.heap.size w w' := by
  by_cases hn : n ≤ 300
  · have hd : decide ((300 : Int) < (n : Int)) = false := by simp; omega
    have hS := hide (show ∀ b, b < w.heap.size → b < w.heap.size from fun _ h => h)
    have hxl := hide (hx.later hS.out)
    have hl := hide hx.1
    go_enter Try.func4, Try.ntmps4
    go_wp2_with (first
      | (go_at_call 11; refine (split_any _ _ _ _ _ (hxl.out _ (by repeat (first | exact Below.refl _ _ | assumption | refine Below.alloc ?_ (by first | assumption | omega | (simp; done) | (simp; omega)) _ | refine Below.drew ?_ | refine below_drewN ?_ _ | refine Below.setCell ?_ (by first | assumption | omega | (simp; done) | (simp; omega)) _))) (fun b hb => Nat.lt_of_lt_of_le (hS.out b hb) (Below.size (B := w.heap.size) (w := w) (by repeat (first | exact Below.refl _ _ | assumption | refine Below.alloc ?_ (by first | assumption | omega | (simp; done) | (simp; omega)) _ | refine Below.drew ?_ | refine below_drewN ?_ _ | refine Below.setCell ?_ (by first | assumption | omega | (simp; done) | (simp; omega)) _)))) (by omega)).mono ?_; rintro e w1 ⟨A1, c1, T, rfl, hown, hT, hb⟩))
    have hT1 : ∀ b, (T b ∨ (Value.slice A1 (splitLn xs).length c1).ownBlock = some b) → b < w1.heap.size := fun b h => h.elim (hown.lt b) fun h => (hown.block b h).2
    obtain ⟨A2, c2, hf, _, hsl⟩ := hown.sl
    injection hf with hf1 _ hf2
    subst hf1 hf2
    have hj := joinLn_split xs
    have hjo := fun hm => join_any A1 (splitLn xs).length c1 (splitLn xs) w1 hsl hT1 hm (by rw [hj]; have := hl.out; omega)
    rw [hj] at hjo
    have hle : (splitLn xs).length ≤ 1000000 := by have := splitLn_length xs; have := hl.out; omega
    have HJ := hide (hjo hle)
    clear hjo hj
    go_wp2_with (first
      | (go_at_call 14; refine (HJ.out).mono ?_; rintro e w2 ⟨A3, c3, rfl, hown2, hb2⟩))
    obtain ⟨A4, c4, hf4, hs4⟩ := ownB_sl hown2
    injection hf4 with hf4 _ hf5
    subst hf4 hf5
    have hz1 : w.heap.size ≤ w1.heap.size := hb.size
    have hb12 : Below w.heap.size w w2 := hb.trans (hb2.mono hz1)
    have HM := hide (same_eq A3 A xs.length n c3 c xs w2 hs4 (hxl.out _ hb12))
    go_wp2_with (go_at_call 13; refine (HM.out).mono ?_; rintro e w3 ⟨rfl, hb23⟩)
    have hb3 : Below w.heap.size w w3 := hb12.trans (hb23.mono hb12.size)
    have hjn := join_any none 0 0 [] w3 (SlRep.nil_ (fun _ => False) _ _ _ (by simp [maxLen])) (fun _ h => h.elim) (by omega) (by simp [joinLn])
    rw [show joinLn [] = [] from rfl] at hjn
    have HN := hide hjn
    clear hjn
    go_wp2_with (first
      | (go_at_call 14; refine (HN.out).mono ?_; rintro e w4 ⟨A5, c5, rfl, hown4, hb4⟩)
      | (go_at_call 7; refine (awake_any _).mono ?_; rintro e w5 ⟨rfl, hb5⟩))
    go_ret
    have hz3 := hb3.size
    have hb34 := hb3.trans (hb4.mono hz3)
    exact ⟨rfl, hb34.trans (hb5.mono hb34.size)⟩
  · have hd : decide ((300 : Int) < (n : Int)) = true := by simp; omega
    go_enter Try.func4, Try.ntmps4
    go_wp2_with (go_at_call 7; refine (awake_any _).mono ?_; rintro e w1 ⟨rfl, hb⟩)
    go_ret
    exact ⟨rfl, hb⟩
end Go.Proofs.Ytamlifoakcoikaa
