/- How the arguments of swap's laws are read. -/
import Derived.Test.YtcekiclbfjfagaaArg
import Derived.Test.YtcekiclbfjfagaaSwap
namespace Go.Proofs.Ytcekiclbfjfagaa
theorem opens_bytes : Opens Try.prog (List UInt8) 23 := opens_list Try.underlying23 (by kernel_rfl) (by decide) (opens_u8 Try.underlying5)
theorem opens_part : Opens Try.prog PartT 37 :=
  opens_struct (show Try.prog.underlying 37 = some (.struct _) by rw [Try.underlying37]) (by kernel_rfl)
    (opensF_cons rfl (by kernel_rfl) (opens_int Try.underlying3) (opensF_cons rfl (by kernel_rfl) (opens_int Try.underlying3) (opensF_one rfl (by kernel_rfl) opens_bytes)))
theorem opens_parts : Opens Try.prog (List PartT) 22 := opens_list Try.underlying22 (by kernel_rfl) (by decide) opens_part
theorem opens_span : Opens Try.prog (Int × Int) 25 :=
  opens_struct (show Try.prog.underlying 25 = some (.struct _) by rw [Try.underlying25]) (by kernel_rfl)
    (opensF_cons rfl (by kernel_rfl) (opens_int Try.underlying3) (opensF_one rfl (by kernel_rfl) (opens_int Try.underlying3)))
theorem opens_spans : Opens Try.prog (Arr 10 (Int × Int)) 26 := opens_array Try.underlying26 (by kernel_rfl) (by kernel_rfl) opens_span
theorem opens_hit : Opens Try.prog (Arr 10 (Int × Int)) 28 :=
  opens_struct (show Try.prog.underlying 28 = some (.struct _) by rw [Try.underlying28]) (by kernel_rfl) (opensF_one rfl (by kernel_rfl) opens_spans)
theorem opens_hits : Opens Try.prog (List (Arr 10 (Int × Int))) 34 := opens_list Try.underlying34 (by kernel_rfl) (by decide) opens_hit
end Go.Proofs.Ytcekiclbfjfagaa
