/- Delimiters. -/
import Derived.Test.YtfngfgiikpofgaaScn
import Derived.Test.YtfngfgiikpofgaaGKL1
namespace Go.Proofs.Ytfngfgiikpofgaa
theorem delims_true (d : UInt8) : palinodelaw14_ScanDelims_R d true := by
  refine ⟨([97, d, 98], 0), open_ok _ (by simp), ?_⟩
  cases hd : delim d.toNat with
  | true =>
    have hn := delim_not hd
    have hb : bentL d [97] = [97] := by
      unfold bentL bentC
      rw [List.flatMap_cons, if_neg (by show ¬ (97 = 92 ∨ 97 = 10 ∨ 97 = d.toNat); omega)]; rfl
    have hu := until_ok [97] [98] d hd (by simp) (by simp)
    rw [hb] at hu
    refine ⟨_, hu, _, rdelim_ok d, _, delim_ok d, split_ (fun _ => ?_) fun h => absurd (beq_self_eq_true _) h⟩
    rw [hd]
    refine split_ (fun _ => split_ (fun _ => ⟨_, rfl, split_ (fun _ => ⟨true, awake_ok, rfl⟩) fun h => absurd rfl h⟩) fun h => absurd rfl h) fun h => absurd rfl h
  | false =>
    refine ⟨_, until_no ([97, d, 98], 0) d hd, _, rdelim_ok d, _, delim_ok d, split_ (fun _ => ?_) fun h => absurd (beq_self_eq_true _) h⟩
    rw [hd]
    refine split_ (fun _ => split_ (fun h => by cases h) fun _ => split_ (fun _ => split_ (fun _ => ⟨_, rfl, split_ (fun _ => ⟨true, awake_ok, rfl⟩) fun h => absurd rfl h⟩) fun h => absurd rfl h) fun h => absurd (by decide) h) fun h => absurd rfl h
theorem delims_law (d : UInt8) : Con Try.prog 3 [.v (.int .u8 (d.toNat : Int))] [] [] (Ret (.v (.bool true))) := palinodelaw14_ScanDelims_con d true (delims_true d)
end Go.Proofs.Ytfngfgiikpofgaa
