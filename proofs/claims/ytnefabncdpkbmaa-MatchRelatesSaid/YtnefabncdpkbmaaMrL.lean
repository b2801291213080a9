
/- The law MatchRelates. -/
import Derived.Test.YtnefabncdpkbmaaMtW
import Derived.Test.YtnefabncdpkbmaaMtJ
import Derived.Test.YtnefabncdpkbmaaMrD
import Derived.Test.YtnefabncdpkbmaaGKL1
namespace Go.Proofs.Ytnefabncdpkbmaa
theorem matchrelates_law (x : List ND × Int) (tx : List UInt8) (a : Int) : palinodelaw11_MatchRelates_R x tx a true := by
  obtain ⟨re, g⟩ := x
  have aw : palinodelaw11_MatchRelates_j1 (re, g) tx a true true := by
    unfold palinodelaw11_MatchRelates_j1
    exact split_ (fun _ => ⟨_, awake_ok, rfl⟩) fun q => absurd rfl q
  unfold palinodelaw11_MatchRelates_R
  refine split_ (fun _ => aw) fun h1 => split_ (fun _ => aw) fun h2 => split_ (fun _ => aw) fun h3 => split_ (fun _ => aw) fun h4 => ⟨_, rright_ok re g, ?_⟩
  have h1 : (re.length : Int) ≤ 12 := by simpa using h1
  cases hr : rightB re g with
  | false => exact aw
  | true =>
    unfold palinodelaw11_MatchRelates_j1
    refine split_ (fun q => by cases q) fun _ => ⟨_, at_ok re g tx a 3000 (by omega) (by omega), ?_⟩
    rcases at_coll (re := re) (g := g) (tx := tx) (a0 := a) (f := 3000) hr (by omega) (by omega) (by omega) (by omega) with e | ⟨r, hc, e⟩
    · rw [e]
      exact split_ (fun _ => split_ (fun _ => ⟨_, awake_ok, rfl⟩) fun q => absurd (by decide) q) fun q => absurd rfl q
    · rw [e]
      refine split_ (fun q => by cases q) fun _ => ⟨_, best_coll hr (by omega) (by omega) (by omega) (by decide) hc, ?_⟩
      refine split_ (fun _ => split_ (fun _ => split_ (fun _ => ⟨_, awake_ok, rfl⟩) fun q => absurd (by simp) q) fun q => absurd rfl q) fun q => absurd rfl q
end Go.Proofs.Ytnefabncdpkbmaa
