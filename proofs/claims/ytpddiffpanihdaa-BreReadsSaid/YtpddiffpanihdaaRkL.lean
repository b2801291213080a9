/- The law of a basic regular expression that is read by the document's reader also. -/
import Derived.Test.YtpddiffpanihdaaRkW
import Derived.Test.YtpddiffpanihdaaGKL1
namespace Go.Proofs.Ytpddiffpanihdaa
/-- What is told of a text. -/
theorem rbasic_ok (b : List UInt8) (hb : b.length ≤ 1000) (n : Nat) (q : Res) (hq : go b n (.branch false pz0) = some q) : palinoderef08_Basic_R b (finB q) := by
  have hj : JobAt b (.branch false pz0) := ⟨Nat.zero_le _, Nat.zero_le _, trivial⟩
  obtain ⟨k, h1, h2⟩ := go_ref b hb n _ q hq hj (by show (0 : Nat) ≤ 1000; omega)
  rw [← tt1] at h1
  obtain ⟨m, _, h1⟩ := h1
  refine ⟨(k, fin8 b q), ⟨R1, R2, R3, R4, R5, rrec_ok, m, h1⟩, finB q, ?_, rfl⟩
  obtain ⟨k0, w, s⟩ := q
  rcases h2 with ⟨h2, _⟩ | ⟨y, h2, h3⟩
  · have h2 : w = [] := h2
    subst h2
    exact split_ (fun h => absurd rfl h) fun _ => rfl
  · have h2 : w = [y] := h2
    subst h2
    exact split_ (fun _ => rfl) fun h => absurd h3 h
theorem rkawake : palinodelaw08_awake_R true := by
  obtain ⟨q1, h1⟩ := go_ex [97, 42] 100 (.branch false pz0) ⟨Nat.zero_le _, Nat.zero_le _, trivial⟩ trivial (by decide) (by decide)
  obtain ⟨q2, h2⟩ := go_ex [42, 97] 100 (.branch false pz0) ⟨Nat.zero_le _, Nat.zero_le _, trivial⟩ trivial (by decide) (by decide)
  obtain ⟨q3, h3⟩ := go_ex [92, 40, 97, 92, 41, 92, 49] 100 (.branch false pz0) ⟨Nat.zero_le _, Nat.zero_le _, trivial⟩ trivial (by decide) (by decide)
  obtain ⟨q4, h4⟩ := go_ex [97, 98, 92, 40] 100 (.branch false pz0) ⟨Nat.zero_le _, Nat.zero_le _, trivial⟩ trivial (by decide) (by decide)
  have e1 : (go [97, 42] 100 (.branch false pz0)).map (fun q => (decide ((finB q).2.2 = 0) && (decide ((finB q).1.1.length = 2) && ((finB q).1.1.map (·.1))[1]? == some 4))) = some true := by kernel_rfl
  have e2 : (go [42, 97] 100 (.branch false pz0)).map (fun q => (decide ((finB q).2.2 = 0) && decide (((finB q).1.1.length : Int) = 3))) = some true := by kernel_rfl
  have e3 : (go [92, 40, 97, 92, 41, 92, 49] 100 (.branch false pz0)).map (fun q => (decide ((finB q).2.2 = 0) && decide ((finB q).1.2 = 1))) = some true := by kernel_rfl
  have e4 : (go [97, 98, 92, 40] 100 (.branch false pz0)).map (fun q => (decide ((finB q).2.2 = 14) && decide ((finB q).2.1 = 4))) = some true := by kernel_rfl
  rw [h1] at e1; rw [h2] at e2; rw [h3] at e3; rw [h4] at e4
  simp only [Option.map_some, Option.some.injEq, Bool.and_eq_true, decide_eq_true_eq, beq_iff_eq] at e1 e2 e3 e4
  refine ⟨_, parseB_ok _ (by decide) 100 (by decide) q1 h1, _, parseB_ok _ (by decide) 100 (by decide) q2 h2, _, parseB_ok _ (by decide) 100 (by decide) q3 h3, _, parseB_ok _ (by decide) 100 (by decide) q4 h4, ?_⟩
  obtain ⟨a1, a2, a3⟩ := e1
  refine split_ (fun _ => split_ (fun _ => ?_) fun h => absurd (by omega) h) fun h => absurd a1 h
  obtain ⟨x, hx⟩ : ∃ x, (finB q1).1.1[1]? = some x := ⟨_, List.getElem?_eq_getElem (by omega)⟩
  refine ⟨by decide, x, hx, ?_⟩
  rw [List.getElem?_map, hx] at a3
  have a3 : x.1 = 4 := by simpa using a3
  show true = _
  rw [decide_eq_true a3, decide_eq_true e2.1, decide_eq_true e2.2, decide_eq_true e3.1, decide_eq_true e3.2, decide_eq_true e4.1, decide_eq_true e4.2]
  rfl
theorem same_rfl (l : List ND) (g : Int) (h : l.length ≤ 1000000) : palinoderef06_Same_R (l, g) (l, g) true := by
  have := refsame_ok l l g g h
  simpa using this
theorem breReads_law (b : List UInt8) : palinodelaw08_BreReads_R b true := by
  refine split_ (fun _ => ⟨true, rkawake, rfl⟩) fun h => ?_
  have hb : b.length ≤ 80 := by omega
  obtain ⟨q, hq⟩ := go_ex b 1000 (.branch false pz0) ⟨Nat.zero_le _, Nat.zero_le _, trivial⟩ trivial (by show 6 * (b.length - 0) + 5 ≤ 1000; omega) (by omega)
  have hj : JobAt b (.branch false pz0) := ⟨Nat.zero_le _, Nat.zero_le _, trivial⟩
  have hp := parseB_ok b (by omega) 1000 (by omega) q hq
  have hr := rbasic_ok b (by omega) 1000 q hq
  obtain ⟨_, _, hsm⟩ := go_ref b (by omega) 1000 _ q hq hj (by show (0 : Nat) ≤ 1000; omega)
  have hlen : (finB q).1.1.length ≤ 1000 := by
    unfold finB
    split
    · rename_i hw
      exact (fin_right hq hw).2.2.2
    · exact Nat.zero_le _
  refine ⟨_, hp, _, hr, true, same_rfl _ _ (Nat.le_trans hlen (by decide)), split_ (fun _ => split_ (fun _ => split_ (fun _ => split_ (fun _ => ⟨true, rkawake, rfl⟩) fun h0 => ⟨_, rright_ok _ _, ?_⟩) fun h => absurd rfl h) fun h => absurd rfl h) fun h => absurd rfl h⟩
  have h0 : (finB q).2.2 = 0 := Decidable.not_not.1 h0
  have hw : q.2.1 = [] := by
    rcases hsm with h | ⟨y, h1, h2⟩
    · exact h.1
    · unfold finB at h0
      rw [h1] at h0
      exact absurd h0 h2
  have e : finB q = ((q.2.2.L, (q.2.2.g : Int)), 0, 0) := by unfold finB; rw [hw]
  rw [e]
  rw [(fin_right hq hw).1]
  exact split_ (fun _ => ⟨true, rkawake, rfl⟩) fun h => absurd rfl h
end Go.Proofs.Ytpddiffpanihdaa
