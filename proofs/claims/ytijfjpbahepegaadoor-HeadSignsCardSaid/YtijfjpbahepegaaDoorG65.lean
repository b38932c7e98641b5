/- The walks of functions of the program: printed. -/
import Derived.Test.YtijfjpbahepegaaDoorK
import Derived.Test.YtijfjpbahepegaaDoorG3
import Derived.Test.YtijfjpbahepegaaDoorG60
import Derived.Test.YtijfjpbahepegaaDoorG64
import Derived.Test.YtijfjpbahepegaaDoorF0
set_option maxRecDepth 100000
namespace Go.Proofs.YtijfjpbahepegaaDoor
open Go Go.RowKit Sk Sd
end Go.Proofs.YtijfjpbahepegaaDoor
