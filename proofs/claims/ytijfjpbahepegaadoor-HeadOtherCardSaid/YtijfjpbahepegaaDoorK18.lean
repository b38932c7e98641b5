/- Plain: a store's head goes on that of each of its beginnings. -/
import Derived.Test.YtijfjpbahepegaaDoorK17
namespace Sd
end Sd
namespace Sd
end Sd
namespace Sd
end Sd
