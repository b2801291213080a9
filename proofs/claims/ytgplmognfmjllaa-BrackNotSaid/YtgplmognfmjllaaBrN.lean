/- BrackNot. -/
import Derived.Test.YtgplmognfmjllaaBrL
import Derived.Test.YtgplmognfmjllaaGKL1
namespace Go.Proofs.Ytgplmognfmjllaa
theorem xor_not (y : UInt64) : (y ^^^ ~~~ y).toNat = 18446744073709551615 := by
  have : y ^^^ ~~~ y = 18446744073709551615 := by
    apply UInt64.toBitVec_inj.1
    rw [UInt64.toBitVec_xor, UInt64.toBitVec_not, ← BitVec.allOnes_xor, BitVec.xor_comm, BitVec.xor_assoc, BitVec.xor_self, BitVec.xor_zero]
    rfl
  rw [this]; rfl
theorem not_law (b : List UInt8) : palinodelaw07_BrackNot_R b true := by
  have aw : palinodelaw07_BrackNot_j1 b true true := split_ (fun _ => ⟨true, brawake, rfl⟩) fun h => absurd rfl h
  refine split_ (fun _ => aw) fun hb => ?_
  have main : isNot b = false → palinodelaw07_BrackNot_j1 b false true := fun hn => by
    have h1 := parse_ok b 0 (by omega) (by omega)
    have h2 := parse_ok ([94] ++ b) 0 (by simp; omega) (by omega)
    have e1 : parseR b 0 = endR false 0 (loopT (b.length + 1) true b z4 0) := by
      unfold parseR; rw [List.drop_zero, if_neg (by rw [hn]; exact Bool.false_ne_true)]
    have e2 : parseR ([94] ++ b) 0 = endR true 1 (loopT (b.length + 1) true b z4 0) := by
      unfold parseR
      rw [if_pos (show isNot (List.drop 0 ([94] ++ b)) = true from rfl)]
      rfl
    rw [e1] at h1
    rw [e2] at h2
    refine split_ (fun h => by cases h) fun _ => ⟨_, h1, room_ (by simp only [List.length_cons, List.length_nil]; omega) (by omega) ⟨_, h2, ?_⟩⟩
    cases hl : loopT (b.length + 1) true b z4 0 with
    | error e =>
      exact split_ (fun h => absurd rfl h) fun _ => split_ (fun _ => split_ (fun _ => split_ (fun _ => ⟨true, brawake, rfl⟩) fun h => absurd rfl h) fun h => absurd rfl h) fun h => absurd (loop_err _ _ _ _ _ _ hl) h
    | ok x =>
      refine split_ (fun h => absurd rfl h) fun _ => split_ (fun h => absurd rfl h) fun _ => ?_
      obtain ⟨k1, k2, _⟩ := loop_agree _ _ _ _ _ x.1 x.2 hl
      refine loop_ (fun (st : Int) m => ∃ k : Nat, k ≤ 4 ∧ m = 4 - k ∧ st = (k : Int)) 4 ⟨0, by omega, rfl, rfl⟩ ?_
      rintro _ m ⟨k, hk, rfl, rfl⟩
      show palinodelaw07_BrackNot_l2 _ _ _ (k : Int) true
      refine split_ (fun h => atA (by omega) (by omega) fun y hy => atA (by omega) (by omega) fun z hz => exXor (split_ (fun h3 => absurd ?_ h3) fun _ => inR_ (by omega) ⟨4 - (k + 1), by omega, k + 1, by omega, rfl, rfl⟩)) fun h => ?_
      · have hy : x.1.l[(k : Int).toNat]? = some y := hy
        have hz : (notS x.1).l[(k : Int).toNat]? = some z := hz
        have : z = ~~~ y := by
          unfold notS at hz
          rw [List.getElem?_map, hy] at hz
          exact (Option.some.inj hz).symm
        rw [this, xor_not]; rfl
      · have hx2 : x.2 ≤ b.length := by omega
        refine inR_ (by show _ ≤ ((0 + x.2 : Nat) : Int) + 1 ∧ ((0 + x.2 : Nat) : Int) + 1 ≤ _; omega) (split_ (fun _ => ⟨true, brawake, rfl⟩) fun h => absurd ?_ h)
        show ((1 + x.2 : Nat) : Int) = ((0 + x.2 : Nat) : Int) + 1
        omega
  refine split_ (fun h => ?_) fun h => ?_
  · obtain ⟨x, t, rfl⟩ : ∃ x t, b = x :: t := by
      cases b with
      | nil => exact absurd h (by decide)
      | cons x t => exact ⟨x, t, rfl⟩
    refine ⟨by omega, x, rfl, ?_⟩
    by_cases h9 : x.toNat = 94
    · rw [decide_eq_true (by omega)]; exact aw
    · rw [decide_eq_false (by omega)]
      exact main (decide_eq_false h9)
  · have : b = [] := List.eq_nil_of_length_eq_zero (by omega)
    subst this
    exact main rfl
end Go.Proofs.Ytgplmognfmjllaa
