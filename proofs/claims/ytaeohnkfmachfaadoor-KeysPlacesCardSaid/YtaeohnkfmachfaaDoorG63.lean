/- The walks of functions of the program: printed. -/
import Derived.Test.YtaeohnkfmachfaaDoorK
import Derived.Test.YtaeohnkfmachfaaDoorG3
import Derived.Test.YtaeohnkfmachfaaDoorF0
set_option maxRecDepth 100000
namespace Go.Proofs.YtaeohnkfmachfaaDoor
open Go Go.RowKit Sk Sd
end Go.Proofs.YtaeohnkfmachfaaDoor
