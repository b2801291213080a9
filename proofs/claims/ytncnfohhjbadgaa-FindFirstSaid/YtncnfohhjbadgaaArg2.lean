
/- Words as arguments. -/
import Derived.Test.YtncnfohhjbadgaaArg
import Derived.Test.YtncnfohhjbadgaaGen
namespace Go.Proofs.Ytncnfohhjbadgaa
open Go.RowKit Go.WideShapes
instance : Rp UInt64 := {
  size := 1
  rep _ _ cs x := cs = [.int .u64 x.toNat]
  len := by rintro _ _ _ _ rfl; rfl
  one := by rintro _ _ _ _ rfl u hu; simp at hu; subst hu; rfl
  keep h _ := h
  sub h _ := h }
theorem u64_of_wf {n : Int} (hw : (Lit.int .u64 n).wf = true) : 0 ≤ n ∧ n ≤ 18446744073709551615 := by
  simp only [Lit.wf, Bool.and_eq_true, decide_eq_true_eq] at hw
  have e1 : IntKind.u64.min = 0 := by decide
  have e2 : IntKind.u64.max = 18446744073709551615 := by decide
  rw [e1, e2] at hw
  exact hw
theorem opens_u64 {P : Program} {t : TypeId} (ht : P.underlying t = some (.int .u64)) : Opens P UInt64 t := by
  constructor
  intro H enc w base spare held fuel cs x h
  obtain ⟨n, rfl, _, hw⟩ := DataW.trod_int ht h
  have hb := u64_of_wf hw
  refine ⟨UInt64.ofNat n.toNat, ?_⟩
  show [Value.int .u64 n] = [.int .u64 ((UInt64.ofNat n.toNat).toNat : Int)]
  rw [UInt64.toNat_ofNat']
  congr 2
  omega
instance : EncR UInt64 := ⟨ew, fun _ => True, by rintro w cs x (rfl : cs = _); exact ⟨⟨_, [], rfl, rfl, rfl⟩, trivial⟩⟩
end Go.Proofs.Ytncnfohhjbadgaa
