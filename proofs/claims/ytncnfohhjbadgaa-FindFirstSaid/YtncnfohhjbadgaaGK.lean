
/- What functions' texts ask for, and the walks that show it (printed by a program). -/
import Derived.Test.YtncnfohhjbadgaaGKp13
namespace Go.Proofs.Ytncnfohhjbadgaa
end Go.Proofs.Ytncnfohhjbadgaa
