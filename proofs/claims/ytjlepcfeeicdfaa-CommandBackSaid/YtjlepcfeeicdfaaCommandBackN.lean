/- CommandBack: rows. -/
import Derived.Test.YtjlepcfeeicdfaaScK
import Derived.Test.YtjlepcfeeicdfaaAwake24
import Derived.Test.YtjlepcfeeicdfaaAddrB
set_option autoImplicit false
set_option maxRecDepth 100000
set_option linter.unusedVariables false
set_option linter.unusedSimpArgs false
namespace Go.Proofs.Ytjlepcfeeicdfaa.L
open Go Go.Abs
open Go.IntKind (u8 u16 u32 u64 i64)
open Go.Abs.AV (int)
open Go.Abs.ABlk (cells)

def cmZ (j : Nat) : List AV := cmA 0 0 false (fun _ => 0) 0 (.sl (some (j, 0)) 0 0 false)
noncomputable def tCB (v : AV) (C : List AV) (e : Int) (l : List UInt8) (kk : Nat) : Tbl := [(10, entF (eRel EnR [(2, .tup [slB 2 l, .int .i64 e], [ownB l]), (5, .tup [slB 5 l, .int .i64 0], [ownB l])])), (8, entF (eRel DcR [(3, v, [.cells C 19 .own none]), (6, (.tup [.agg (cmZ 6), .int .i64 2]), [.cells [] 19 .own none]), (9, (.tup [.agg (cmZ 9), .int .i64 2]), [.cells [] 19 .own none]), (10, (.tup [.agg (cmZ 10), .int .i64 2]), [.cells [] 19 .own none]), (11, (.tup [.agg (cmZ 11), .int .i64 2]), [.cells [] 19 .own none]), (12, (.tup [.agg (cmZ 12), .int .i64 2]), [.cells [] 19 .own none]), (13, (.tup [.agg (cmZ 13), .int .i64 2]), [.cells [] 19 .own none])])), (18, entF (eSay eRound [(6, .int .i64 kk, [])])), (16, entF (eRel ScR [(10, .bool true, []), (11, .bool true, []), (12, .bool true, []), (13, .bool true, []), (14, .bool true, []), (15, .bool true, [])])), (7, entF eAwake)]
theorem tCBOk (v : AV) (C : List AV) (e : Int) (l : List UInt8) (kk : Nat) : ∀ f E, (tCB v C e l kk).find f = some E → SoundE Try.prog f E := find_cons (sEn _) (find_cons (sDc _) (find_cons (sSay sRound _) (find_cons (sSc _) (find_cons sAwake (find_nil _)))))
noncomputable def hCBl0 (C : List AV) (n : Nat) (k pr : Int) (w : Bool) (x : Nat → Int) (po cut mo : Int) : AHeap := [ABlk.cells C 19 Md.far none, cells [int i64 k, b8 pr, AV.bool w, b8 (x 0), b8 (x 1), b8 (x 2), b8 (x 3), b8 (x 4), b8 (x 5), b8 (x 6), b8 (x 7), b8 (x 8), b8 (x 9), b8 (x 10), b8 (x 11), b8 (x 12), b8 (x 13), b8 (x 14), b8 (x 15), int u16 po, AV.sl (some (0, 0)) n 0 false] 21 Md.own none]
theorem nfCBl {R : Type} (C : List AV) (n : Nat) (k pr : Int) (w : Bool) (x : Nat → Int) (po cut mo : Int) (K : AV → AHeap → Option R) :
 qrun Try.prog (tCB (.bool true) C 0 [] 0) 100 4 [(21, .bool true)] [] 4 [.agg (cmA k pr w x po (.sl (some (0, 0)) n 0 false)), .int .i64 cut, .int .u8 mo] [.cells C 19 .far none] K =
 (if decide ((n : Int) > 100) = true then
 K (AV.bool true) ((hCBl0 C n k pr w x po cut mo))
 else none) := by
  kernel_rfl

noncomputable def hCBe0 (C : List AV) (n : Nat) (k pr : Int) (w : Bool) (x : Nat → Int) (po cut mo : Int) : AHeap := [ABlk.cells C 19 Md.far none, cells [int i64 k, b8 pr, AV.bool w, b8 (x 0), b8 (x 1), b8 (x 2), b8 (x 3), b8 (x 4), b8 (x 5), b8 (x 6), b8 (x 7), b8 (x 8), b8 (x 9), b8 (x 10), b8 (x 11), b8 (x 12), b8 (x 13), b8 (x 14), b8 (x 15), int u16 po, AV.sl (some (0, 0)) n 0 false] 21 Md.own none]
noncomputable def hCBe1 (C : List AV) (n : Nat) (k pr : Int) (w : Bool) (x : Nat → Int) (po cut mo : Int) : AHeap := [cells [] 1 Md.own none]
noncomputable def hCBe2 (C : List AV) (n : Nat) (k pr : Int) (w : Bool) (x : Nat → Int) (po cut mo : Int) : AHeap := [ABlk.cells C 19 Md.far none, cells [int i64 k, b8 pr, AV.bool w, b8 (x 0), b8 (x 1), b8 (x 2), b8 (x 3), b8 (x 4), b8 (x 5), b8 (x 6), b8 (x 7), b8 (x 8), b8 (x 9), b8 (x 10), b8 (x 11), b8 (x 12), b8 (x 13), b8 (x 14), b8 (x 15), int u16 po, AV.sl (some (0, 0)) n 0 false] 21 Md.own none, cells [] 1 Md.own none]
theorem nfCBe {R : Type} (C : List AV) (n : Nat) (k pr : Int) (w : Bool) (x : Nat → Int) (po cut mo : Int) (K : AV → AHeap → Option R) :
 qrun Try.prog (tCB (.bool true) C 2 [] 0) 100 4 [(21, .bool false)] [] 4 [.agg (cmA k pr w x po (.sl (some (0, 0)) n 0 false)), .int .i64 cut, .int .u8 mo] [.cells C 19 .far none] K =
 (if decide ((n : Int) > 100) = false then
 (if cdec (EnR [AV.agg [int i64 k, b8 pr, AV.bool w, b8 (x 0), b8 (x 1), b8 (x 2), b8 (x 3), b8 (x 4), b8 (x 5), b8 (x 6), b8 (x 7), b8 (x 8), b8 (x 9), b8 (x 10), b8 (x 11), b8 (x 12), b8 (x 13), b8 (x 14), b8 (x 15), int u16 po, AV.sl (some (0, 0)) n 0 false]] (hCBe0 C n k pr w x po cut mo) (AV.tup [AV.sl (some (2, 0)) 0 0 false, int i64 2]) (hCBe1 C n k pr w x po cut mo)) = true then
 K (AV.bool true) ((hCBe2 C n k pr w x po cut mo))
 else none) else none) := by
  kernel_rfl

noncomputable def hCBm0 (C : List AV) (n : Nat) (k pr : Int) (w : Bool) (x : Nat → Int) (po cut mo : Int) (l : List UInt8) (kk : Nat) : AHeap := [ABlk.cells C 19 Md.far none, cells [int i64 k, b8 pr, AV.bool w, b8 (x 0), b8 (x 1), b8 (x 2), b8 (x 3), b8 (x 4), b8 (x 5), b8 (x 6), b8 (x 7), b8 (x 8), b8 (x 9), b8 (x 10), b8 (x 11), b8 (x 12), b8 (x 13), b8 (x 14), b8 (x 15), int u16 po, AV.sl (some (0, 0)) n 0 false] 21 Md.own none]
noncomputable def hCBm1 (C : List AV) (n : Nat) (k pr : Int) (w : Bool) (x : Nat → Int) (po cut mo : Int) (l : List UInt8) (kk : Nat) : AHeap := [cells (bys l) 1 Md.own none]
noncomputable def hCBm2 (C : List AV) (n : Nat) (k pr : Int) (w : Bool) (x : Nat → Int) (po cut mo : Int) (l : List UInt8) (kk : Nat) : AHeap := [ABlk.cells C 19 Md.far none, cells [int i64 k, b8 pr, AV.bool w, b8 (x 0), b8 (x 1), b8 (x 2), b8 (x 3), b8 (x 4), b8 (x 5), b8 (x 6), b8 (x 7), b8 (x 8), b8 (x 9), b8 (x 10), b8 (x 11), b8 (x 12), b8 (x 13), b8 (x 14), b8 (x 15), int u16 po, AV.sl (some (0, 0)) n 0 false] 21 Md.own none, cells (bys l) 1 Md.own none]
noncomputable def hCBm3 (C : List AV) (n : Nat) (k pr : Int) (w : Bool) (x : Nat → Int) (po cut mo : Int) (l : List UInt8) (kk : Nat) : AHeap := [ABlk.cells C 19 Md.own none]
noncomputable def hCBm4 (C : List AV) (n : Nat) (k pr : Int) (w : Bool) (x : Nat → Int) (po cut mo : Int) (l : List UInt8) (kk : Nat) : AHeap := [ABlk.cells C 19 Md.far none, cells [int i64 k, b8 pr, AV.bool w, b8 (x 0), b8 (x 1), b8 (x 2), b8 (x 3), b8 (x 4), b8 (x 5), b8 (x 6), b8 (x 7), b8 (x 8), b8 (x 9), b8 (x 10), b8 (x 11), b8 (x 12), b8 (x 13), b8 (x 14), b8 (x 15), int u16 po, AV.sl (some (0, 0)) n 0 false] 21 Md.own none, cells (bys l) 1 Md.own none, ABlk.cells C 19 Md.own none, cells [int i64 k, b8 pr, AV.bool w, b8 (x 0), b8 (x 1), b8 (x 2), b8 (x 3), b8 (x 4), b8 (x 5), b8 (x 6), b8 (x 7), b8 (x 8), b8 (x 9), b8 (x 10), b8 (x 11), b8 (x 12), b8 (x 13), b8 (x 14), b8 (x 15), int u16 po, AV.sl (some (3, 0)) n 0 false] 21 Md.own none]
noncomputable def hCBm5 (C : List AV) (n : Nat) (k pr : Int) (w : Bool) (x : Nat → Int) (po cut mo : Int) (l : List UInt8) (kk : Nat) : AHeap := [ABlk.cells C 19 Md.far none, cells [int i64 k, b8 pr, AV.bool w, b8 (x 0), b8 (x 1), b8 (x 2), b8 (x 3), b8 (x 4), b8 (x 5), b8 (x 6), b8 (x 7), b8 (x 8), b8 (x 9), b8 (x 10), b8 (x 11), b8 (x 12), b8 (x 13), b8 (x 14), b8 (x 15), int u16 po, AV.sl (some (0, 0)) n 0 false] 21 Md.own none, cells (bys l) 1 Md.own none, ABlk.cells C 19 Md.own none, cells [int i64 k, b8 pr, AV.bool w, b8 (x 0), b8 (x 1), b8 (x 2), b8 (x 3), b8 (x 4), b8 (x 5), b8 (x 6), b8 (x 7), b8 (x 8), b8 (x 9), b8 (x 10), b8 (x 11), b8 (x 12), b8 (x 13), b8 (x 14), b8 (x 15), int u16 po, AV.sl (some (3, 0)) n 0 false] 21 Md.own none, cells (bys l) 1 Md.own none]
noncomputable def hCBm6 (C : List AV) (n : Nat) (k pr : Int) (w : Bool) (x : Nat → Int) (po cut mo : Int) (l : List UInt8) (kk : Nat) : AHeap := []
noncomputable def hCBm7 (C : List AV) (n : Nat) (k pr : Int) (w : Bool) (x : Nat → Int) (po cut mo : Int) (l : List UInt8) (kk : Nat) : AHeap := [cells [] 19 Md.own none]
noncomputable def hCBm8 (C : List AV) (n : Nat) (k pr : Int) (w : Bool) (x : Nat → Int) (po cut mo : Int) (l : List UInt8) (kk : Nat) : AHeap := [ABlk.cells C 19 Md.far none, cells [int i64 k, b8 pr, AV.bool w, b8 (x 0), b8 (x 1), b8 (x 2), b8 (x 3), b8 (x 4), b8 (x 5), b8 (x 6), b8 (x 7), b8 (x 8), b8 (x 9), b8 (x 10), b8 (x 11), b8 (x 12), b8 (x 13), b8 (x 14), b8 (x 15), int u16 po, AV.sl (some (0, 0)) n 0 false] 21 Md.own none, cells (bys l) 1 Md.own none, ABlk.cells C 19 Md.own none, cells [int i64 k, b8 pr, AV.bool w, b8 (x 0), b8 (x 1), b8 (x 2), b8 (x 3), b8 (x 4), b8 (x 5), b8 (x 6), b8 (x 7), b8 (x 8), b8 (x 9), b8 (x 10), b8 (x 11), b8 (x 12), b8 (x 13), b8 (x 14), b8 (x 15), int u16 po, AV.sl (some (3, 0)) n 0 false] 21 Md.own none, cells (bys l) 1 Md.own none, cells [] 19 Md.own none, cells [int i64 0, b8 0, AV.bool false, b8 0, b8 0, b8 0, b8 0, b8 0, b8 0, b8 0, b8 0, b8 0, b8 0, b8 0, b8 0, b8 0, b8 0, b8 0, b8 0, int u16 0, AV.sl (some (6, 0)) 0 0 false] 21 Md.own none, ABlk.dead, cells (List.take (l.length * 1) (bys l)) 1 Md.ro none, cells [b8 mo] 1 Md.own none, cells (List.take ((0 + l.length) * 1) (List.take (l.length * 1) (bys l)) ++ [b8 mo]) 1 Md.own (some 9)]
noncomputable def hCBm9 (C : List AV) (n : Nat) (k pr : Int) (w : Bool) (x : Nat → Int) (po cut mo : Int) (l : List UInt8) (kk : Nat) : AHeap := [ABlk.cells C 19 Md.far none, cells [int i64 k, b8 pr, AV.bool w, b8 (x 0), b8 (x 1), b8 (x 2), b8 (x 3), b8 (x 4), b8 (x 5), b8 (x 6), b8 (x 7), b8 (x 8), b8 (x 9), b8 (x 10), b8 (x 11), b8 (x 12), b8 (x 13), b8 (x 14), b8 (x 15), int u16 po, AV.sl (some (0, 0)) n 0 false] 21 Md.own none, cells (bys l) 1 Md.own none, ABlk.cells C 19 Md.own none, cells [int i64 k, b8 pr, AV.bool w, b8 (x 0), b8 (x 1), b8 (x 2), b8 (x 3), b8 (x 4), b8 (x 5), b8 (x 6), b8 (x 7), b8 (x 8), b8 (x 9), b8 (x 10), b8 (x 11), b8 (x 12), b8 (x 13), b8 (x 14), b8 (x 15), int u16 po, AV.sl (some (3, 0)) n 0 false] 21 Md.own none, cells (bys l) 1 Md.own none, cells [] 19 Md.own none, cells [int i64 0, b8 0, AV.bool false, b8 0, b8 0, b8 0, b8 0, b8 0, b8 0, b8 0, b8 0, b8 0, b8 0, b8 0, b8 0, b8 0, b8 0, b8 0, b8 0, int u16 0, AV.sl (some (6, 0)) 0 0 false] 21 Md.own none, ABlk.dead, cells (List.take (l.length * 1) (bys l)) 1 Md.ro none, cells [b8 mo] 1 Md.own none, cells (List.take ((0 + l.length) * 1) (List.take (l.length * 1) (bys l)) ++ [b8 mo]) 1 Md.own (some 9), cells [] 19 Md.own none, cells [int i64 0, b8 0, AV.bool false, b8 0, b8 0, b8 0, b8 0, b8 0, b8 0, b8 0, b8 0, b8 0, b8 0, b8 0, b8 0, b8 0, b8 0, b8 0, b8 0, int u16 0, AV.sl (some (12, 0)) 0 0 false] 21 Md.own none]
theorem nfCBm {R : Type} (C : List AV) (n : Nat) (k pr : Int) (w : Bool) (x : Nat → Int) (po cut mo : Int) (l : List UInt8) (kk : Nat) (K : AV → AHeap → Option R) :
 qrun Try.prog (tCB (.tup [.agg (cmA k pr w x po (.sl (some (3, 0)) n 0 false)), .int .i64 0]) C 0 l kk) 100 4 [(21, .bool false), (38, .bool false), (86, .bool true)] [] 4 [.agg (cmA k pr w x po (.sl (some (0, 0)) n 0 false)), .int .i64 cut, .int .u8 mo] [.cells C 19 .far none] K =
 (if decide ((n : Int) > 100) = false then
 (if cdec (EnR [AV.agg [int i64 k, b8 pr, AV.bool w, b8 (x 0), b8 (x 1), b8 (x 2), b8 (x 3), b8 (x 4), b8 (x 5), b8 (x 6), b8 (x 7), b8 (x 8), b8 (x 9), b8 (x 10), b8 (x 11), b8 (x 12), b8 (x 13), b8 (x 14), b8 (x 15), int u16 po, AV.sl (some (0, 0)) n 0 false]] (hCBm0 C n k pr w x po cut mo l kk) (AV.tup [AV.sl (some (2, 0)) l.length 0 false, int i64 0]) (hCBm1 C n k pr w x po cut mo l kk)) = true then
 (if ((l.length : Int) == 0) = false then
 (if cdec (DcR [AV.sl (some (2, 0)) l.length 0 false] (hCBm2 C n k pr w x po cut mo l kk) (AV.tup [AV.agg [int i64 k, b8 pr, AV.bool w, b8 (x 0), b8 (x 1), b8 (x 2), b8 (x 3), b8 (x 4), b8 (x 5), b8 (x 6), b8 (x 7), b8 (x 8), b8 (x 9), b8 (x 10), b8 (x 11), b8 (x 12), b8 (x 13), b8 (x 14), b8 (x 15), int u16 po, AV.sl (some (3, 0)) n 0 false], int i64 0]) (hCBm3 C n k pr w x po cut mo l kk)) = true then
 (if cdec (EnR [AV.agg [int i64 k, b8 pr, AV.bool w, b8 (x 0), b8 (x 1), b8 (x 2), b8 (x 3), b8 (x 4), b8 (x 5), b8 (x 6), b8 (x 7), b8 (x 8), b8 (x 9), b8 (x 10), b8 (x 11), b8 (x 12), b8 (x 13), b8 (x 14), b8 (x 15), int u16 po, AV.sl (some (3, 0)) n 0 false]] (hCBm4 C n k pr w x po cut mo l kk) (AV.tup [AV.sl (some (5, 0)) l.length 0 false, int i64 0]) (hCBm1 C n k pr w x po cut mo l kk)) = true then
 (if cdec (Says eRound [int i64 cut, int i64 (l.length : Int)] (hCBm5 C n k pr w x po cut mo l kk) (int i64 (kk : Int)) (hCBm6 C n k pr w x po cut mo l kk)) = true then
 (if 0 ≤ (kk : Int) ∧ (kk : Int) ≤ (((capOf l.length 0 false) : Nat) : Int) then
 (if cdec (DcR [AV.sl (some (2, 0)) (((kk : Int)).toNat - 0) (roomOf l.length 0 0 (some (kk : Int)).isNone ((kk : Int)).toNat false) false] (hCBm5 C n k pr w x po cut mo l kk) (AV.tup [AV.agg [int i64 0, b8 0, AV.bool false, b8 0, b8 0, b8 0, b8 0, b8 0, b8 0, b8 0, b8 0, b8 0, b8 0, b8 0, b8 0, b8 0, b8 0, b8 0, b8 0, int u16 0, AV.sl (some (6, 0)) 0 0 false], int i64 2]) (hCBm7 C n k pr w x po cut mo l kk)) = true then
 (if 0 + l.length * 1 ≤ (bys l).length then
 (if (2 * (0 + l.length) + 200) * 1 ≤ 281474976710656 ∧ some 1 = some 1 ∧ 0 + l.length ≤ 70368744177664 then
 (if 0 = 0 ∧ 0 = 0 ∧ (0 < l.length ∨ 0 = 0) ∧ 1 = 1 ∧ (List.take (l.length * 1) (bys l)).all AV.isCell = true then
 (if (2 * (0 + l.length + 1) + 200) * 1 ≤ 281474976710656 ∧ some 1 = some 1 ∧ 0 + l.length + 1 ≤ 70368744177664 then
 (if 0 + (0 + l.length) * 1 ≤ (List.take (l.length * 1) (bys l)).length then
 (if 0 = 0 ∧ 0 + (0 + l.length) * 1 = (List.take (l.length * 1) (bys l)).length ∧ (0 < 1 ∨ 0 = 0) ∧ 1 = 1 ∧ [b8 mo].all AV.isCell = true then
 (if cdec (DcR [AV.sl (some (11, 0)) (0 + l.length + 1) 0 false] (hCBm8 C n k pr w x po cut mo l kk) (AV.tup [AV.agg [int i64 0, b8 0, AV.bool false, b8 0, b8 0, b8 0, b8 0, b8 0, b8 0, b8 0, b8 0, b8 0, b8 0, b8 0, b8 0, b8 0, b8 0, b8 0, b8 0, int u16 0, AV.sl (some (12, 0)) 0 0 false], int i64 2]) (hCBm7 C n k pr w x po cut mo l kk)) = true then
 (if cdec (ScR [AV.agg [int i64 k, b8 pr, AV.bool w, b8 (x 0), b8 (x 1), b8 (x 2), b8 (x 3), b8 (x 4), b8 (x 5), b8 (x 6), b8 (x 7), b8 (x 8), b8 (x 9), b8 (x 10), b8 (x 11), b8 (x 12), b8 (x 13), b8 (x 14), b8 (x 15), int u16 po, AV.sl (some (0, 0)) n 0 false], AV.agg [int i64 k, b8 pr, AV.bool w, b8 (x 0), b8 (x 1), b8 (x 2), b8 (x 3), b8 (x 4), b8 (x 5), b8 (x 6), b8 (x 7), b8 (x 8), b8 (x 9), b8 (x 10), b8 (x 11), b8 (x 12), b8 (x 13), b8 (x 14), b8 (x 15), int u16 po, AV.sl (some (3, 0)) n 0 false]] (hCBm9 C n k pr w x po cut mo l kk) (AV.bool true) (hCBm6 C n k pr w x po cut mo l kk)) = true then
 (if 0 + l.length ≤ (bys l).length then
 (if (List.take l.length (bys l)).all isByte = true then
 (if 0 + l.length ≤ (bys l).length then
 (if (List.take l.length (bys l)).all isByte = true then
 (if decide (List.map byteD (List.take l.length (bys l)) = List.map byteD (List.take l.length (bys l))) = true then
 K (AV.bool true) ((hCBm9 C n k pr w x po cut mo l kk))
 else none) else none) else none) else none) else none) else none) else none) else none) else none) else none) else none) else none) else none) else none) else none) else none) else none) else none) else none) else none) else none) := by
  kernel_rfl


end Go.Proofs.Ytjlepcfeeicdfaa.L
