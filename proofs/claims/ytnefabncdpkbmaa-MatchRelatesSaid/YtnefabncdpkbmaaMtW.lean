
/- The example. -/
import Derived.Test.YtnefabncdpkbmaaMtE
namespace Go.Proofs.Ytnefabncdpkbmaa
theorem awake_ok : palinodelaw11_awake_R true := palinodelaw11_awake_ok (fuel := 60) (by kernel_rfl)
end Go.Proofs.Ytnefabncdpkbmaa
