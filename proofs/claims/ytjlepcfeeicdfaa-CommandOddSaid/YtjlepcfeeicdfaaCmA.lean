/- An argument that is a struct whose last field is a row. -/
import Derived.Test.YtjlepcfeeicdfaaBase
set_option autoImplicit false
set_option maxRecDepth 100000
set_option linter.unusedVariables false
set_option linter.unusedSimpArgs false
namespace Go.Abs
variable {P : Program} {H : Type} {enc : TypeId × Value → H}

end Go.Abs
