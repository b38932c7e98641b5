/- Plain laws for checks of proofs. -/
import Derived.Test.YtijfjpbahepegaaDoorK15
namespace Sd
end Sd
