/- The walks of functions of the program: printed. -/
import Derived.Test.YtncamojfjhbanaaDoorK16
import Derived.Test.YtncamojfjhbanaaDoorG3
import Derived.Test.YtncamojfjhbanaaDoorG7
import Derived.Test.YtncamojfjhbanaaDoorF0
set_option maxRecDepth 100000
namespace Go.Proofs.YtncamojfjhbanaaDoor
open Go Go.RowKit Sk Sd
end Go.Proofs.YtncamojfjhbanaaDoor
