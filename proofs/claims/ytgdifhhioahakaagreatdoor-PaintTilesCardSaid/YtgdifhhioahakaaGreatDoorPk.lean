/- Which parts are around a place, which are right within one: the tests. -/
import Derived.Test.YtgdifhhioahakaaGreatDoorPk0
import Derived.BigQuiet
import Derived.Deep.DeepCutAuto
import Derived.Deep.CutBlock
import Derived.IntWalk
namespace Go.Proofs.YtgdifhhioahakaaGreatDoor
open Go.RowKit
set_option linter.unusedVariables false
set_option linter.unusedSimpArgs false
set_option maxRecDepth 100000
end Go.Proofs.YtgdifhhioahakaaGreatDoor
namespace Go.Proofs.YtgdifhhioahakaaGreatDoor
open Go.RowKit
set_option linter.unusedVariables false
set_option linter.unusedSimpArgs false
set_option maxRecDepth 100000
end Go.Proofs.YtgdifhhioahakaaGreatDoor
namespace Go.Proofs.YtgdifhhioahakaaGreatDoor
open Go.RowKit
set_option linter.unusedVariables false
set_option linter.unusedSimpArgs false
set_option maxRecDepth 100000
end Go.Proofs.YtgdifhhioahakaaGreatDoor
