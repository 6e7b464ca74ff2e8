/- seg's Port, and the reference's. -/
import Derived.Test.YthbneddbigclfaaOctB
set_option autoImplicit false
set_option maxRecDepth 100000
set_option linter.unusedVariables false
set_option linter.unusedSimpArgs false
namespace Go.Proofs.Ythbneddbigclfaa.L
open Go Go.Abs

def hd7 (s d f : Int) : AV := .tup [.agg [.int .u16 s, .int .u16 d, .int .u8 f], .int .i64 0]
def hd7N (r : Int) : AV := .tup [.agg [.int .u16 0, .int .u16 0, .int .u8 0], .int .i64 r]
def rd7 (s d f : Int) : AV := .tup [.agg [.int .i64 s, .int .i64 d, .int .u8 f], .int .i64 0]
def rd7N (r : Int) : AV := .tup [.agg [.int .i64 0, .int .i64 0, .int .u8 0], .int .i64 r]
end Go.Proofs.Ythbneddbigclfaa.L
