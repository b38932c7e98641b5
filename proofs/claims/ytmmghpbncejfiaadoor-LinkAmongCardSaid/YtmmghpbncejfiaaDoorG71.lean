/- The walks of functions of the program: printed. -/
import Derived.Test.YtmmghpbncejfiaaDoorK
import Derived.Test.YtmmghpbncejfiaaDoorG51
import Derived.Test.YtmmghpbncejfiaaDoorG65
import Derived.Test.YtmmghpbncejfiaaDoorF0
set_option maxRecDepth 100000
namespace Go.Proofs.YtmmghpbncejfiaaDoor
open Go Go.RowKit Sk Sd
end Go.Proofs.YtmmghpbncejfiaaDoor
