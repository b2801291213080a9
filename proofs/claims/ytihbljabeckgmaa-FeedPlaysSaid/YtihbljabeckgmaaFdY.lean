/- Line by line all is what the document says. -/
import Derived.Test.YtihbljabeckgmaaFdC
import Derived.Test.YtihbljabeckgmaaGKL3
namespace Go.Proofs.Ytihbljabeckgmaa
theorem plays_law (fs gs : List FL) (o : Opt) (from_ : UInt8) (hwf : ∀ f ∈ fs, f.2.length ≤ 9223372036854775807) (hwg : ∀ f ∈ gs, f.2.length ≤ 9223372036854775807) : palinodelaw18_FeedPlays_R fs gs o from_ true := by
  have stop : palinodelaw18_FeedPlays_j1 from_ o gs fs true true := split_ (fun h => ⟨true, fdawake, rfl⟩) fun h => absurd rfl h
  refine ⟨_, great_ok fs o hwf, split_ (fun _ => stop) fun hg => ⟨_, great_ok gs o hwg, ?_⟩⟩
  refine split_ (fun h => ⟨true, fdawake, rfl⟩) fun hg2 => ?_
  obtain ⟨h1, h2, h3⟩ := great_no hg
  obtain ⟨k1, k2, k3⟩ := great_no hg2
  refine ⟨_, rfl, _, rfl, loop_ (fun s m => ∃ (i : Nat) (x : Fst), i ≤ 100 ∧ m = 100 - i ∧ s = ((i : Int), x.1, x.2.1, x.2.2.1, x.2.2.2.1, x.2.2.2.2, x.1, x.2.1, x.2.2.1, x.2.2.2.1, x.2.2.2.2) ∧ x.2.2.2.2.length ≤ 1000) 100 ⟨0, (0, -1, -1, 0, []), by omega, rfl, rfl, by simp⟩ ?_⟩
  rintro _ m ⟨i, x, hi, rfl, rfl, hx⟩
  have step : ∀ hs : List FL, hs.length ≤ 1000 → big hs ≤ 1000 → (i : Int) < 100 → palinodelaw18_FeedPlays_j3 x.1 x.2.1 x.2.2.1 x.2.2.2.1 x.2.2.2.2 x.1 x.2.1 x.2.2.1 x.2.2.2.1 x.2.2.2.2 o i (fun s' => ∃ m', m' < 100 - i ∧ ∃ (i : Nat) (x : Fst), i ≤ 100 ∧ m' = 100 - i ∧ s' = ((i : Int), x.1, x.2.1, x.2.2.1, x.2.2.2.1, x.2.2.2.2, x.1, x.2.1, x.2.2.1, x.2.2.2.1, x.2.2.2.2) ∧ x.2.2.2.2.length ≤ 1000) hs true := by
    intro hs b1 b2 b3
    obtain ⟨l1, l2⟩ := next_len (B := 1000) (fs := hs) (by omega) x o.2.2.2.2 hx
    refine ⟨true, ssame_ok x (by omega), split_ (fun h => absurd rfl h) fun _ => ⟨_, last_ok x hs o (by omega) (by omega), _, rlast_ok x hs o (by omega) (by omega), split_ (fun h => absurd (beq_self_eq_true _) h) fun _ =>
      ⟨_, next_ok x hs o (by omega) (by omega) (by omega) hx, _, rnext_ok x hs o.2.2.2.2 (by omega) (by omega) (by omega) hx, split_ (fun h => absurd (beq_self_eq_true _) h) fun _ => ⟨true, lsame_t _ (by omega), split_ (fun h => absurd rfl h) fun _ => split_ (fun _ => ⟨true, fdawake, rfl⟩) fun _ => inR_ (by omega) ⟨100 - (i + 1), by omega, i + 1, _, by omega, rfl, rfl, l2⟩⟩⟩⟩⟩
  refine split_ (fun h => ⟨by decide, split_ (fun _ => ?_) fun _ => ?_⟩) fun _ => ⟨true, fdawake, rfl⟩
  · exact step gs (by omega) (by omega) h
  · exact step fs (by omega) (by omega) h
end Go.Proofs.Ytihbljabeckgmaa
