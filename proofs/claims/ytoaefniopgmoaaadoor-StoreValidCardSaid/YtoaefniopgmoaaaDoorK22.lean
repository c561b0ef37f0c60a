/- The reference's rot. -/
import Derived.Test.YtoaefniopgmoaaaDoorK21
import Derived.Test.YtoaefniopgmoaaaDoorK13
namespace Go.Bu.W
open Sp
end Go.Bu.W


