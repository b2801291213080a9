
/- The law FindAll. -/
import Derived.Test.YtncnfohhjbadgaaFnC
import Derived.Test.YtncnfohhjbadgaaGKL3
namespace Go.Proofs.Ytncnfohhjbadgaa
theorem fnawakeA : palinodelaw12_awake_R true := palinodelaw12_awake_ok (fuel := 120) (by kernel_rfl)
theorem findall_law (x : List ND × Int) (tx : List UInt8) (f : Int) : palinodelaw12_FindAll_R x tx f true := by
  obtain ⟨re, g⟩ := x
  unfold palinodelaw12_FindAll_R palinodelaw12_FindAll_j1
  refine split_ (fun _ => ⟨_, fnawakeA, rfl⟩) fun h => ?_
  simp only [Bool.or_eq_true, decide_eq_true_eq, not_or] at h
  obtain ⟨h1, h2, h3⟩ := h
  have bad : palinodelaw12_FindAll_j2 ([], 0, 1) (re, g) tx f true true := by
    unfold palinodelaw12_FindAll_j2
    exact split_ (fun _ => split_ (fun _ => split_ (fun _ => split_ (fun _ => ⟨_, fnawakeA, rfl⟩) fun q => absurd rfl q) fun q => absurd rfl q) fun q => absurd rfl q) fun q => absurd rfl q
  by_cases hf : f < 0
  · refine ⟨_, all_neg re g tx f (by omega) hf, _, rright_ok re g, ?_⟩
    rw [decide_eq_true hf, Bool.or_true]
    exact bad
  · refine ⟨_, all_ok re g tx f (by omega) (by omega) (by omega), _, rright_ok re g, ?_⟩
    cases hr : rightB re g with
    | false =>
      have e : allM re g tx f = ([], 0, 1) := by
        unfold allM
        have ef : firstM re g tx 0 f = (Arr.rep 10 (0, 0), false, 0, 1) := by unfold firstM; rw [if_pos (.inr (.inr (.inr hr)))]
        rw [all_no (by omega) (by rw [ef]; decide), ef]; rfl
      rw [e]
      exact bad
    | true =>
      rw [decide_eq_false hf]
      unfold palinodelaw12_FindAll_j2
      refine split_ (fun q => by cases q) fun _ => ?_
      refine ⟨_, rall_ok re g tx f hr (by omega) (by omega) (by omega), _, rsameL_ok _ (by have := (allM_ok re g tx f (by omega)).2.2; omega), ?_⟩
      exact split_ (fun _ => split_ (fun _ => split_ (fun _ => ⟨_, fnawakeA, rfl⟩) fun q => absurd rfl q) fun q => absurd rfl q) fun q => absurd rfl q
end Go.Proofs.Ytncnfohhjbadgaa
