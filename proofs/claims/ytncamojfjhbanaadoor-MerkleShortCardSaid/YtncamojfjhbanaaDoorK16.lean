/- Plain laws for checks of proofs. -/
import Derived.Test.YtncamojfjhbanaaDoorK15
namespace Sd
end Sd
