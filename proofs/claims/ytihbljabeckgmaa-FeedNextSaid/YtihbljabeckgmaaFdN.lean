/- The next line is what the document says. -/
import Derived.Test.YtihbljabeckgmaaFdC
import Derived.Test.YtihbljabeckgmaaGKL1
namespace Go.Proofs.Ytihbljabeckgmaa
theorem next_law (x : Fst) (fs : List FL) (o : Opt) (hwf : ∀ f ∈ fs, f.2.length ≤ 9223372036854775807) : palinodelaw18_FeedNext_R x fs o true := by
  refine ⟨_, great_ok fs o hwf, split_ (fun h => ⟨true, fdawake, rfl⟩) fun h => ?_⟩
  rw [Bool.or_eq_true, not_or] at h
  obtain ⟨hg, hr⟩ := h
  obtain ⟨h1, h2, h3⟩ := great_no hg
  have hr : x.2.2.2.2.length ≤ 1000 := by simp only [decide_eq_true_eq] at hr; omega
  obtain ⟨l1, l2⟩ := next_len (B := 1000) (fs := fs) (by omega) x o.2.2.2.2 hr
  refine ⟨_, next_ok x fs o (by omega) (by omega) (by omega) hr, _, rnext_ok x fs o.2.2.2.2 (by omega) (by omega) (by omega) hr, split_ (fun _ => ⟨true, lsame_t _ (by omega), split_ (fun _ => ⟨true, ssame_ok _ (by omega), split_ (fun _ =>
    ⟨_, last_ok x fs o (by omega) (by omega), _, rlast_ok x fs o (by omega) (by omega), split_ (fun _ => ⟨_, last_ok _ fs o (by omega) (by omega), _, rlast_ok _ fs o (by omega) (by omega), split_ (fun _ => ⟨true, fdawake, rfl⟩) fun h => absurd (beq_self_eq_true _) h⟩) fun h => absurd (beq_self_eq_true _) h⟩) fun h => absurd rfl h⟩) fun h => absurd rfl h⟩) fun h => absurd (beq_self_eq_true _) h⟩
end Go.Proofs.Ytihbljabeckgmaa
