/- Frames that are built. -/
import Derived.Test.YtjkkhbeidhpghaaOctB
import Derived.Test.YtjkkhbeidhpghaaFour2
import Derived.Test.YtjkkhbeidhpghaaSix2
import Derived.Test.YtjkkhbeidhpghaaAddrB
set_option autoImplicit false
set_option linter.unusedVariables false
set_option linter.unusedSimpArgs false
namespace Go.Proofs.Ytjkkhbeidhpghaa.L
open Go Go.Abs

def prt (u : Bool) : Int := if u = true then 17 else 6
def bldH (v u : Bool) (n k : Int) : List UInt8 := if v = true then make6 (kSrc true n) (kDst true) (prt u) k else make4 (kSrc false n) (kDst false) (prt u) k
/-- Rows as they stand in memory. -/
def wk (n : Int) : Int := IntKind.i64.wrap (intV (some (AV.int IntKind.u16 (kport n))))
end Go.Proofs.Ytjkkhbeidhpghaa.L
