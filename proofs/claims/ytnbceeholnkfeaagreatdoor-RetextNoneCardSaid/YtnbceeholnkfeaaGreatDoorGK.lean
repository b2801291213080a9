/- What functions' texts ask for, and the walks that show it (printed by a program). -/
import Derived.Test.YtnbceeholnkfeaaGreatDoorGKp7
namespace Go.Proofs.YtnbceeholnkfeaaGreatDoor
end Go.Proofs.YtnbceeholnkfeaaGreatDoor
