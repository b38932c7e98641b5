/- The walks of functions of the program: printed. -/
import Derived.Test.YtaeohnkfmachfabDoorG1
import Derived.Test.YtaeohnkfmachfabDoorG2
import Derived.Test.YtaeohnkfmachfabDoorF0
set_option maxRecDepth 100000
namespace Go.Proofs.YtaeohnkfmachfabDoor
open Go Go.RowKit Sk Sd
end Go.Proofs.YtaeohnkfmachfabDoor
