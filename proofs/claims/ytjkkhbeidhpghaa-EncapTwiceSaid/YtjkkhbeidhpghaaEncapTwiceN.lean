/- EncapTwice's run: what the kernel makes of it. -/
import Derived.Test.YtjkkhbeidhpghaaEncKit
import Derived.Test.YtjkkhbeidhpghaaRRead
import Derived.Test.YtjkkhbeidhpghaaAwake10
set_option autoImplicit false
set_option maxRecDepth 100000
set_option linter.unusedVariables false
set_option linter.unusedSimpArgs false
namespace Go.Proofs.Ytjkkhbeidhpghaa.L
open Go Go.Abs
open Go.IntKind
open Go.Abs.AV (int)
open Go.Abs.ABlk (cells)

noncomputable def tET (F O : List UInt8) : Tbl := [(9, entF eKey), (10, entF eDip), (8, entF (eRel BuildR0 [(1, slB 1 F, [ownB F])])), (11, entF (eRel InR [(6, .tup [slB 6 O, .int .i64 0], [ownB O]), (12, .tup [slB 12 [], .int .i64 6], [ownB []])])),
  (19, entF (eSay eFrR [(7, .tup [.agg view0, .int .i64 6], [])])), (7, entF eAwake)]
theorem tETOk (F O : List UInt8) : ∀ f E, (tET F O).find f = some E → SoundE Try.prog f E := find_cons sKey (find_cons sDip (find_cons (sBuild0 _) (find_cons (sIn _) (find_cons (sSay sRRead _) (find_cons sAwake (find_nil _))))))
noncomputable def hET0 (v d6 : Bool) (n : Int) (d F O : List UInt8) : AHeap := [cells (bys d) 1 Md.far none]
noncomputable def hET1 (v d6 : Bool) (n : Int) (d F O : List UInt8) : AHeap := [cells (bys F) 1 Md.own none]
noncomputable def hET2 (v d6 : Bool) (n : Int) (d F O : List UInt8) : AHeap := [cells (bys d) 1 Md.far none, cells (bys F) 1 Md.own none, cells [AV.bool false, int u8 172, int u8 16, int u8 0, int u8 151, int u8 0, int u8 0, int u8 0, int u8 0, int u8 0, int u8 0, int u8 0, int u8 0, int u8 0, int u8 0, int u8 0, int u8 0] 17 Md.own none, cells [AV.bool false, int u8 172, int u8 16, int u8 0, int u8 151, int u8 0, int u8 0, int u8 0, int u8 0, int u8 0, int u8 0, int u8 0, int u8 0, int u8 0, int u8 0, int u8 0, int u8 0] 17 Md.own none, cells [AV.bool true, int u8 172, int u8 16, int u8 0, int u8 151, int u8 0, int u8 0, int u8 0, int u8 0, int u8 0, int u8 0, int u8 0, int u8 0, int u8 0, int u8 0, int u8 0, int u8 0] 17 Md.own none, cells [AV.bool true, int u8 172, int u8 16, int u8 0, int u8 151, int u8 0, int u8 0, int u8 0, int u8 0, int u8 0, int u8 0, int u8 0, int u8 0, int u8 0, int u8 0, int u8 0, int u8 0] 17 Md.own none]
noncomputable def hET3 (v d6 : Bool) (n : Int) (d F O : List UInt8) : AHeap := [cells (bys O) 1 Md.own none]
noncomputable def hET4 (v d6 : Bool) (n : Int) (d F O : List UInt8) : AHeap := [cells (bys d) 1 Md.far none, cells (bys F) 1 Md.own none, cells [AV.bool false, int u8 172, int u8 16, int u8 0, int u8 151, int u8 0, int u8 0, int u8 0, int u8 0, int u8 0, int u8 0, int u8 0, int u8 0, int u8 0, int u8 0, int u8 0, int u8 0] 17 Md.own none, cells [AV.bool false, int u8 172, int u8 16, int u8 0, int u8 151, int u8 0, int u8 0, int u8 0, int u8 0, int u8 0, int u8 0, int u8 0, int u8 0, int u8 0, int u8 0, int u8 0, int u8 0] 17 Md.own none, cells [AV.bool true, int u8 172, int u8 16, int u8 0, int u8 151, int u8 0, int u8 0, int u8 0, int u8 0, int u8 0, int u8 0, int u8 0, int u8 0, int u8 0, int u8 0, int u8 0, int u8 0] 17 Md.own none, cells [AV.bool true, int u8 172, int u8 16, int u8 0, int u8 151, int u8 0, int u8 0, int u8 0, int u8 0, int u8 0, int u8 0, int u8 0, int u8 0, int u8 0, int u8 0, int u8 0, int u8 0] 17 Md.own none, cells (bys O) 1 Md.own none]
noncomputable def hET5 (v d6 : Bool) (n : Int) (d F O : List UInt8) : AHeap := []
noncomputable def hET6 (v d6 : Bool) (n : Int) (d F O : List UInt8) : AHeap := [cells (bys d) 1 Md.far none, cells (bys F) 1 Md.own none, cells [AV.bool false, int u8 172, int u8 16, int u8 0, int u8 151, int u8 0, int u8 0, int u8 0, int u8 0, int u8 0, int u8 0, int u8 0, int u8 0, int u8 0, int u8 0, int u8 0, int u8 0] 17 Md.own none, cells [AV.bool false, int u8 172, int u8 16, int u8 0, int u8 151, int u8 0, int u8 0, int u8 0, int u8 0, int u8 0, int u8 0, int u8 0, int u8 0, int u8 0, int u8 0, int u8 0, int u8 0] 17 Md.own none, cells [AV.bool true, int u8 172, int u8 16, int u8 0, int u8 151, int u8 0, int u8 0, int u8 0, int u8 0, int u8 0, int u8 0, int u8 0, int u8 0, int u8 0, int u8 0, int u8 0, int u8 0] 17 Md.own none, cells [AV.bool true, int u8 172, int u8 16, int u8 0, int u8 151, int u8 0, int u8 0, int u8 0, int u8 0, int u8 0, int u8 0, int u8 0, int u8 0, int u8 0, int u8 0, int u8 0, int u8 0] 17 Md.own none, cells (bys O) 1 Md.own none, cells [AV.bool false, int i64 0, int i64 0, int i64 0, int u8 0, AV.bool false, int u8 0, int u8 0, int u8 0, int u8 0, int u8 0, int u8 0, int u8 0, int u8 0, int u8 0, int u8 0, int u8 0, int u8 0, int u8 0, int u8 0, int u8 0, int u8 0, AV.bool false, int u8 0, int u8 0, int u8 0, int u8 0, int u8 0, int u8 0, int u8 0, int u8 0, int u8 0, int u8 0, int u8 0, int u8 0, int u8 0, int u8 0, int u8 0, int u8 0, int u16 0, int u16 0, int u8 0] 42 Md.own none, cells [AV.bool false, int u8 172, int u8 16, int u8 0, int u8 151, int u8 0, int u8 0, int u8 0, int u8 0, int u8 0, int u8 0, int u8 0, int u8 0, int u8 0, int u8 0, int u8 0, int u8 0] 17 Md.own none, cells [AV.bool false, int u8 172, int u8 16, int u8 0, int u8 151, int u8 0, int u8 0, int u8 0, int u8 0, int u8 0, int u8 0, int u8 0, int u8 0, int u8 0, int u8 0, int u8 0, int u8 0] 17 Md.own none, cells [AV.bool true, int u8 172, int u8 16, int u8 0, int u8 151, int u8 0, int u8 0, int u8 0, int u8 0, int u8 0, int u8 0, int u8 0, int u8 0, int u8 0, int u8 0, int u8 0, int u8 0] 17 Md.own none, cells [AV.bool true, int u8 172, int u8 16, int u8 0, int u8 151, int u8 0, int u8 0, int u8 0, int u8 0, int u8 0, int u8 0, int u8 0, int u8 0, int u8 0, int u8 0, int u8 0, int u8 0] 17 Md.own none]
noncomputable def hET7 (v d6 : Bool) (n : Int) (d F O : List UInt8) : AHeap := [cells [] 1 Md.own none]
theorem nfET {R : Type} (v d6 : Bool) (n : Int) (d F O : List UInt8) (K : AV → Option R) :
 qrun Try.prog (tET F O) 100 5 [(18, .bool false), (52, .bool true), (56, .bool true), (60, .bool true), (65, .bool true)] [] 6 [.int .i64 n, .bool v, .bool d6, slB 0 d] [farB d] (fun v _ => K v) =
 (if decide ((d.length : Int) > 200) = false then
 (if cdec (BuildR0 [AV.agg [int u8 6, AV.bool v, int u8 10, int u8 (kb1 n), int u8 (kb2 n), int u8 (kb3 n), int u8 0, int u8 0, int u8 0, int u8 0, int u8 0, int u8 0, int u8 0, int u8 0, int u8 0, int u8 0, int u8 0, int u8 0, AV.bool v, int u8 192, int u8 168, int u8 0, int u8 1, int u8 0, int u8 0, int u8 0, int u8 0, int u8 0, int u8 0, int u8 0, int u8 0, int u8 0, int u8 0, int u8 0, int u8 0, int u16 (kport n), int u16 80], int u8 0, AV.sl (some (0, 0)) d.length 0 false, AV.bool false, AV.bool false, int i64 0] (hET0 v d6 n d F O) (AV.sl (some (1, 0)) F.length 0 false) (hET1 v d6 n d F O)) = true then
 (if cdec (InR [AV.sl (some (1, 0)) F.length 0 false, AV.agg [AV.bool false, int u8 172, int u8 16, int u8 0, int u8 151, int u8 0, int u8 0, int u8 0, int u8 0, int u8 0, int u8 0, int u8 0, int u8 0, int u8 0, int u8 0, int u8 0, int u8 0], AV.agg [AV.bool true, int u8 172, int u8 16, int u8 0, int u8 151, int u8 0, int u8 0, int u8 0, int u8 0, int u8 0, int u8 0, int u8 0, int u8 0, int u8 0, int u8 0, int u8 0, int u8 0], AV.agg [AV.bool d6, int u8 172, int u8 16, int u8 0, int u8 3, int u8 0, int u8 0, int u8 0, int u8 0, int u8 0, int u8 0, int u8 0, int u8 0, int u8 0, int u8 0, int u8 0, int u8 0]] (hET2 v d6 n d F O) (AV.tup [AV.sl (some (6, 0)) O.length 0 false, int i64 0]) (hET3 v d6 n d F O)) = true then
 (if cdec (Says eFrR [AV.sl (some (6, 0)) O.length 0 false] (hET4 v d6 n d F O) (AV.tup [AV.agg view0, int i64 6]) (hET5 v d6 n d F O)) = true then
 (if cdec (InR [AV.sl (some (6, 0)) O.length 0 false, AV.agg [AV.bool false, int u8 172, int u8 16, int u8 0, int u8 151, int u8 0, int u8 0, int u8 0, int u8 0, int u8 0, int u8 0, int u8 0, int u8 0, int u8 0, int u8 0, int u8 0, int u8 0], AV.agg [AV.bool true, int u8 172, int u8 16, int u8 0, int u8 151, int u8 0, int u8 0, int u8 0, int u8 0, int u8 0, int u8 0, int u8 0, int u8 0, int u8 0, int u8 0, int u8 0, int u8 0], AV.agg [AV.bool d6, int u8 172, int u8 16, int u8 0, int u8 4, int u8 0, int u8 0, int u8 0, int u8 0, int u8 0, int u8 0, int u8 0, int u8 0, int u8 0, int u8 0, int u8 0, int u8 0]] (hET6 v d6 n d F O) (AV.tup [AV.sl (some (12, 0)) 0 0 false, int i64 6]) (hET7 v d6 n d F O)) = true then
 K (AV.bool true)
 else none) else none) else none) else none) else none) := by
  kernel_rfl

theorem nfETL {R : Type} (v d6 : Bool) (n : Int) (d : List UInt8) (K : AV → Option R) :
 qrun Try.prog (tET [] []) 100 5 [(18, .bool true)] [] 6 [.int .i64 n, .bool v, .bool d6, slB 0 d] [farB d] (fun v _ => K v) =
 (if decide ((d.length : Int) > 200) = true then
 K (AV.bool true)
 else none) := by
  kernel_rfl


end Go.Proofs.Ytjkkhbeidhpghaa.L
