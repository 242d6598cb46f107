/- Whether a part expands, as the program and as the reference have it; the same rows of parts. -/
import Derived.Test.YtgdifhhioahakaaGreatDoorRfy
import Derived.Test.YtgdifhhioahakaaGreatDoorPk
import Derived.BigQuiet
namespace Go.Proofs.YtgdifhhioahakaaGreatDoor
open Go.RowKit
set_option linter.unusedVariables false
set_option linter.unusedSimpArgs false
set_option maxRecDepth 100000
end Go.Proofs.YtgdifhhioahakaaGreatDoor
