
/- The law FindFirst. -/
import Derived.Test.YtncnfohhjbadgaaFnC
import Derived.Test.YtncnfohhjbadgaaGKL2
namespace Go.Proofs.Ytncnfohhjbadgaa
theorem fnawakeF : palinodelaw12_awake_R true := palinodelaw12_awake_ok (fuel := 120) (by kernel_rfl)
theorem findfirst_law (x : List ND × Int) (tx : List UInt8) (a f : Int) : palinodelaw12_FindFirst_R x tx a f true := by
  obtain ⟨re, g⟩ := x
  unfold palinodelaw12_FindFirst_R palinodelaw12_FindFirst_j1
  refine split_ (fun _ => ⟨_, fnawakeF, rfl⟩) fun h => ?_
  simp only [Bool.or_eq_true, decide_eq_true_eq, not_or] at h
  obtain ⟨h1, h2, h3⟩ := h
  refine ⟨_, first_ok re g tx a f (by omega) (by omega), _, rright_ok re g, ?_⟩
  unfold palinodelaw12_FindFirst_j2
  refine split_ (fun h => ?_) fun h => ?_
  · have hb : a < 0 ∨ (tx.length : Int) < a ∨ f < 0 ∨ rightB re g = false := by
      simp only [Bool.or_eq_true, decide_eq_true_eq, Bool.not_eq_true'] at h
      rcases h with h | h | h | h
      · exact .inr (.inr (.inr h))
      · exact .inl h
      · exact .inr (.inl h)
      · exact .inr (.inr (.inl h))
    have e : firstM re g tx a f = (Arr.rep 10 (0, 0), false, 0, 1) := by unfold firstM; rw [if_pos hb]
    rw [e]
    exact split_ (fun _ => split_ (fun _ => split_ (fun _ => split_ (fun _ => ⟨_, fnawakeF, rfl⟩) fun q => absurd rfl q) fun q => absurd rfl q) fun q => absurd (by simp) q) fun q => absurd rfl q
  · simp only [Bool.or_eq_true, decide_eq_true_eq, Bool.not_eq_true', not_or] at h
    obtain ⟨k1, k2, k3, k4⟩ := h
    have hr : rightB re g = true := by simpa using k1
    refine ⟨_, rfirst_ok re g tx a f hr (by omega) (by omega) (by omega) (by omega) (by omega), ?_⟩
    exact split_ (fun _ => split_ (fun _ => split_ (fun _ => split_ (fun _ => ⟨_, fnawakeF, rfl⟩) fun q => absurd rfl q) fun q => absurd rfl q) fun q => absurd (by simp) q) fun q => absurd rfl q
end Go.Proofs.Ytncnfohhjbadgaa
