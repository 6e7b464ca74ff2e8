/- The reference's Health: Tell, Count: rows. -/
import Derived.Test.YtpghomcohejejaaHlK
import Derived.Test.YtpghomcohejejaaAddrB
set_option autoImplicit false
set_option maxRecDepth 100000
set_option linter.unusedVariables false
set_option linter.unusedSimpArgs false
namespace Go.Proofs.Ytpghomcohejejaa.L
open Go Go.Abs
open Go.IntKind
open Go.Abs.AV (int)
open Go.Abs.ABlk (cells)

noncomputable abbrev RTL := loopIn (bodyOf Try.prog 12) 0
noncomputable abbrev RCL := loopIn (bodyOf Try.prog 14) 0
def mRT : List Bool := List.replicate 1 true ++ List.replicate 1 false ++ List.replicate 1 true ++ List.replicate 1 false ++ List.replicate 1 true ++ List.replicate 1 false ++ List.replicate 3 true ++ List.replicate 84 false
def mRC : List Bool := List.replicate 1 true ++ List.replicate 2 false ++ List.replicate 3 true ++ List.replicate 27 false
noncomputable def eValR : GEnt := fun args h => match args with
  | [.agg cs] => some (cdec (IsAdr cs), .bool (opq (adrValid cs)), h)
  | _ => none
def hRt (f : Int) (n : Nat) (C D : List AV) : AHeap := [.cells [.int .i64 f, .sl (some (1, 0)) n 0 false] 2 .own none, .cells C 19 .own none, .cells D 18 .own none]
def hRt0 (f : Int) (n : Nat) (C : List AV) : AHeap := [.cells [.int .i64 f, .sl (some (1, 0)) n 0 false] 2 .own none, .cells C 19 .own none]
def vRt (w b : Bool) (e i : Int) : List AV := [.ptr (some (0, 0)), .bool w, .ptr (some (2, 0)), .bool b, .int .i64 e, .int .i64 i]
def vRc (r i : Int) : List AV := [.ptr (some (0, 0)), .ptr (some (2, 0)), .int .i64 r, .int .i64 i]
noncomputable def tRt : Tbl := [(20, entF eValR)]

noncomputable def hRta0 (f : Int) (n : Nat) (C D : List AV) (w : Bool) (i : Int) : AHeap := [cells [int i64 f, AV.sl (some (1, 0)) n 0 false] 2 Md.own none, ABlk.cells C 19 Md.own none, ABlk.cells D 18 Md.own none]
theorem nfRta (f : Int) (n : Nat) (C D : List AV) (w : Bool) (i : Int) :
 qround Try.prog [] 100 4 [(19, .bool true), (31, .bool true)] noT RTL mRT (vRt w false 0 i) (hRt f n C D) =
 (if decide (i < (n : Int)) = true then
 (if 0 ≤ i ∧ i < (n : Int) then
 (if 0 + i.toNat * 19 + 0 + 18 ≤ C.length then
 (if 18 ≤ D.length then
 (if 17 ≤ (List.take 18 (List.drop (0 + i.toNat * 19 + 0) C)).length then
 (if 17 ≤ (List.take 18 D).length then
 (if isBoolV (List.take 17 (List.take 18 (List.drop (0 + i.toNat * 19 + 0) C)))[0]? = true then
 (if isBoolV (List.take 17 (List.take 18 D))[0]? = true then
 (if 17 ≤ (List.take 17 (List.take 18 (List.drop (0 + i.toNat * 19 + 0) C))).length then
 (if 17 ≤ (List.take 17 (List.take 18 D)).length then
 (if isIntV u8 (List.take 16 (List.drop 1 (List.take 17 (List.take 18 (List.drop (0 + i.toNat * 19 + 0) C)))))[0]? = true then
 (if isIntV u8 (List.take 16 (List.drop 1 (List.take 17 (List.take 18 D))))[0]? = true then
 (if isIntV u8 (List.take 16 (List.drop 1 (List.take 17 (List.take 18 (List.drop (0 + i.toNat * 19 + 0) C)))))[1]? = true then
 (if isIntV u8 (List.take 16 (List.drop 1 (List.take 17 (List.take 18 D))))[1]? = true then
 (if isIntV u8 (List.take 16 (List.drop 1 (List.take 17 (List.take 18 (List.drop (0 + i.toNat * 19 + 0) C)))))[2]? = true then
 (if isIntV u8 (List.take 16 (List.drop 1 (List.take 17 (List.take 18 D))))[2]? = true then
 (if isIntV u8 (List.take 16 (List.drop 1 (List.take 17 (List.take 18 (List.drop (0 + i.toNat * 19 + 0) C)))))[3]? = true then
 (if isIntV u8 (List.take 16 (List.drop 1 (List.take 17 (List.take 18 D))))[3]? = true then
 (if isIntV u8 (List.take 16 (List.drop 1 (List.take 17 (List.take 18 (List.drop (0 + i.toNat * 19 + 0) C)))))[4]? = true then
 (if isIntV u8 (List.take 16 (List.drop 1 (List.take 17 (List.take 18 D))))[4]? = true then
 (if isIntV u8 (List.take 16 (List.drop 1 (List.take 17 (List.take 18 (List.drop (0 + i.toNat * 19 + 0) C)))))[5]? = true then
 (if isIntV u8 (List.take 16 (List.drop 1 (List.take 17 (List.take 18 D))))[5]? = true then
 (if isIntV u8 (List.take 16 (List.drop 1 (List.take 17 (List.take 18 (List.drop (0 + i.toNat * 19 + 0) C)))))[6]? = true then
 (if isIntV u8 (List.take 16 (List.drop 1 (List.take 17 (List.take 18 D))))[6]? = true then
 (if isIntV u8 (List.take 16 (List.drop 1 (List.take 17 (List.take 18 (List.drop (0 + i.toNat * 19 + 0) C)))))[7]? = true then
 (if isIntV u8 (List.take 16 (List.drop 1 (List.take 17 (List.take 18 D))))[7]? = true then
 (if isIntV u8 (List.take 16 (List.drop 1 (List.take 17 (List.take 18 (List.drop (0 + i.toNat * 19 + 0) C)))))[8]? = true then
 (if isIntV u8 (List.take 16 (List.drop 1 (List.take 17 (List.take 18 D))))[8]? = true then
 (if isIntV u8 (List.take 16 (List.drop 1 (List.take 17 (List.take 18 (List.drop (0 + i.toNat * 19 + 0) C)))))[9]? = true then
 (if isIntV u8 (List.take 16 (List.drop 1 (List.take 17 (List.take 18 D))))[9]? = true then
 (if isIntV u8 (List.take 16 (List.drop 1 (List.take 17 (List.take 18 (List.drop (0 + i.toNat * 19 + 0) C)))))[10]? = true then
 (if isIntV u8 (List.take 16 (List.drop 1 (List.take 17 (List.take 18 D))))[10]? = true then
 (if isIntV u8 (List.take 16 (List.drop 1 (List.take 17 (List.take 18 (List.drop (0 + i.toNat * 19 + 0) C)))))[11]? = true then
 (if isIntV u8 (List.take 16 (List.drop 1 (List.take 17 (List.take 18 D))))[11]? = true then
 (if isIntV u8 (List.take 16 (List.drop 1 (List.take 17 (List.take 18 (List.drop (0 + i.toNat * 19 + 0) C)))))[12]? = true then
 (if isIntV u8 (List.take 16 (List.drop 1 (List.take 17 (List.take 18 D))))[12]? = true then
 (if isIntV u8 (List.take 16 (List.drop 1 (List.take 17 (List.take 18 (List.drop (0 + i.toNat * 19 + 0) C)))))[13]? = true then
 (if isIntV u8 (List.take 16 (List.drop 1 (List.take 17 (List.take 18 D))))[13]? = true then
 (if isIntV u8 (List.take 16 (List.drop 1 (List.take 17 (List.take 18 (List.drop (0 + i.toNat * 19 + 0) C)))))[14]? = true then
 (if isIntV u8 (List.take 16 (List.drop 1 (List.take 17 (List.take 18 D))))[14]? = true then
 (if isIntV u8 (List.take 16 (List.drop 1 (List.take 17 (List.take 18 (List.drop (0 + i.toNat * 19 + 0) C)))))[15]? = true then
 (if isIntV u8 (List.take 16 (List.drop 1 (List.take 17 (List.take 18 D))))[15]? = true then
 (if isIntV u16 (List.take 18 (List.drop (0 + i.toNat * 19 + 0) C))[17]? = true then
 (if isIntV u16 (List.take 18 D)[17]? = true then
 (if (!(boolV (List.take 17 (List.take 18 (List.drop (0 + i.toNat * 19 + 0) C)))[0]? == boolV (List.take 17 (List.take 18 D))[0]? && (intV (List.take 16 (List.drop 1 (List.take 17 (List.take 18 (List.drop (0 + i.toNat * 19 + 0) C)))))[0]? == intV (List.take 16 (List.drop 1 (List.take 17 (List.take 18 D))))[0]? && (intV (List.take 16 (List.drop 1 (List.take 17 (List.take 18 (List.drop (0 + i.toNat * 19 + 0) C)))))[1]? == intV (List.take 16 (List.drop 1 (List.take 17 (List.take 18 D))))[1]? && (intV (List.take 16 (List.drop 1 (List.take 17 (List.take 18 (List.drop (0 + i.toNat * 19 + 0) C)))))[2]? == intV (List.take 16 (List.drop 1 (List.take 17 (List.take 18 D))))[2]? && (intV (List.take 16 (List.drop 1 (List.take 17 (List.take 18 (List.drop (0 + i.toNat * 19 + 0) C)))))[3]? == intV (List.take 16 (List.drop 1 (List.take 17 (List.take 18 D))))[3]? && (intV (List.take 16 (List.drop 1 (List.take 17 (List.take 18 (List.drop (0 + i.toNat * 19 + 0) C)))))[4]? == intV (List.take 16 (List.drop 1 (List.take 17 (List.take 18 D))))[4]? && (intV (List.take 16 (List.drop 1 (List.take 17 (List.take 18 (List.drop (0 + i.toNat * 19 + 0) C)))))[5]? == intV (List.take 16 (List.drop 1 (List.take 17 (List.take 18 D))))[5]? && (intV (List.take 16 (List.drop 1 (List.take 17 (List.take 18 (List.drop (0 + i.toNat * 19 + 0) C)))))[6]? == intV (List.take 16 (List.drop 1 (List.take 17 (List.take 18 D))))[6]? && (intV (List.take 16 (List.drop 1 (List.take 17 (List.take 18 (List.drop (0 + i.toNat * 19 + 0) C)))))[7]? == intV (List.take 16 (List.drop 1 (List.take 17 (List.take 18 D))))[7]? && (intV (List.take 16 (List.drop 1 (List.take 17 (List.take 18 (List.drop (0 + i.toNat * 19 + 0) C)))))[8]? == intV (List.take 16 (List.drop 1 (List.take 17 (List.take 18 D))))[8]? && (intV (List.take 16 (List.drop 1 (List.take 17 (List.take 18 (List.drop (0 + i.toNat * 19 + 0) C)))))[9]? == intV (List.take 16 (List.drop 1 (List.take 17 (List.take 18 D))))[9]? && (intV (List.take 16 (List.drop 1 (List.take 17 (List.take 18 (List.drop (0 + i.toNat * 19 + 0) C)))))[10]? == intV (List.take 16 (List.drop 1 (List.take 17 (List.take 18 D))))[10]? && (intV (List.take 16 (List.drop 1 (List.take 17 (List.take 18 (List.drop (0 + i.toNat * 19 + 0) C)))))[11]? == intV (List.take 16 (List.drop 1 (List.take 17 (List.take 18 D))))[11]? && (intV (List.take 16 (List.drop 1 (List.take 17 (List.take 18 (List.drop (0 + i.toNat * 19 + 0) C)))))[12]? == intV (List.take 16 (List.drop 1 (List.take 17 (List.take 18 D))))[12]? && (intV (List.take 16 (List.drop 1 (List.take 17 (List.take 18 (List.drop (0 + i.toNat * 19 + 0) C)))))[13]? == intV (List.take 16 (List.drop 1 (List.take 17 (List.take 18 D))))[13]? && (intV (List.take 16 (List.drop 1 (List.take 17 (List.take 18 (List.drop (0 + i.toNat * 19 + 0) C)))))[14]? == intV (List.take 16 (List.drop 1 (List.take 17 (List.take 18 D))))[14]? && (intV (List.take 16 (List.drop 1 (List.take 17 (List.take 18 (List.drop (0 + i.toNat * 19 + 0) C)))))[15]? == intV (List.take 16 (List.drop 1 (List.take 17 (List.take 18 D))))[15]? && true))))))))))))))) && true) && (intV (List.take 18 (List.drop (0 + i.toNat * 19 + 0) C))[17]? == intV (List.take 18 D)[17]? && true))) = true then
 some ((AEx.norm, [AV.ptr (some (0, 0)), AV.bool w, AV.ptr (some (2, 0)), AV.bool false, int i64 0, int i64 (i64.wrap (i + 1))], (hRta0 f n C D w i)))
 else none) else none) else none) else none) else none) else none) else none) else none) else none) else none) else none) else none) else none) else none) else none) else none) else none) else none) else none) else none) else none) else none) else none) else none) else none) else none) else none) else none) else none) else none) else none) else none) else none) else none) else none) else none) else none) else none) else none) else none) else none) else none) else none) else none) else none) := by
  kernel_rfl

noncomputable def hRtw0 (f : Int) (n : Nat) (C D : List AV) (i : Int) : AHeap := [cells [int i64 f, AV.sl (some (5, 0)) (0 + (i.toNat - 0) + (n - (i64.wrap (i + 1)).toNat)) 0 false] 2 Md.own none, ABlk.cells C 19 Md.own none, ABlk.cells D 18 Md.own none, ABlk.dead, cells (List.take ((i.toNat - 0) * 19) C) 19 Md.ro none, cells (List.take ((0 + (i.toNat - 0)) * 19) (List.take ((i.toNat - 0) * 19) C) ++ List.take ((n - (i64.wrap (i + 1)).toNat) * 19) (List.drop (0 + (i64.wrap (i + 1)).toNat * 19) C)) 19 Md.own (some 4)]
theorem nfRtw (f : Int) (n : Nat) (C D : List AV) (i : Int) :
 qround Try.prog [] 100 4 [(19, .bool true), (31, .bool false)] noT RTL mRT (vRt true false 0 i) (hRt f n C D) =
 (if decide (i < (n : Int)) = true then
 (if 0 ≤ i ∧ i < (n : Int) then
 (if 0 + i.toNat * 19 + 0 + 18 ≤ C.length then
 (if 18 ≤ D.length then
 (if 17 ≤ (List.take 18 (List.drop (0 + i.toNat * 19 + 0) C)).length then
 (if 17 ≤ (List.take 18 D).length then
 (if isBoolV (List.take 17 (List.take 18 (List.drop (0 + i.toNat * 19 + 0) C)))[0]? = true then
 (if isBoolV (List.take 17 (List.take 18 D))[0]? = true then
 (if 17 ≤ (List.take 17 (List.take 18 (List.drop (0 + i.toNat * 19 + 0) C))).length then
 (if 17 ≤ (List.take 17 (List.take 18 D)).length then
 (if isIntV u8 (List.take 16 (List.drop 1 (List.take 17 (List.take 18 (List.drop (0 + i.toNat * 19 + 0) C)))))[0]? = true then
 (if isIntV u8 (List.take 16 (List.drop 1 (List.take 17 (List.take 18 D))))[0]? = true then
 (if isIntV u8 (List.take 16 (List.drop 1 (List.take 17 (List.take 18 (List.drop (0 + i.toNat * 19 + 0) C)))))[1]? = true then
 (if isIntV u8 (List.take 16 (List.drop 1 (List.take 17 (List.take 18 D))))[1]? = true then
 (if isIntV u8 (List.take 16 (List.drop 1 (List.take 17 (List.take 18 (List.drop (0 + i.toNat * 19 + 0) C)))))[2]? = true then
 (if isIntV u8 (List.take 16 (List.drop 1 (List.take 17 (List.take 18 D))))[2]? = true then
 (if isIntV u8 (List.take 16 (List.drop 1 (List.take 17 (List.take 18 (List.drop (0 + i.toNat * 19 + 0) C)))))[3]? = true then
 (if isIntV u8 (List.take 16 (List.drop 1 (List.take 17 (List.take 18 D))))[3]? = true then
 (if isIntV u8 (List.take 16 (List.drop 1 (List.take 17 (List.take 18 (List.drop (0 + i.toNat * 19 + 0) C)))))[4]? = true then
 (if isIntV u8 (List.take 16 (List.drop 1 (List.take 17 (List.take 18 D))))[4]? = true then
 (if isIntV u8 (List.take 16 (List.drop 1 (List.take 17 (List.take 18 (List.drop (0 + i.toNat * 19 + 0) C)))))[5]? = true then
 (if isIntV u8 (List.take 16 (List.drop 1 (List.take 17 (List.take 18 D))))[5]? = true then
 (if isIntV u8 (List.take 16 (List.drop 1 (List.take 17 (List.take 18 (List.drop (0 + i.toNat * 19 + 0) C)))))[6]? = true then
 (if isIntV u8 (List.take 16 (List.drop 1 (List.take 17 (List.take 18 D))))[6]? = true then
 (if isIntV u8 (List.take 16 (List.drop 1 (List.take 17 (List.take 18 (List.drop (0 + i.toNat * 19 + 0) C)))))[7]? = true then
 (if isIntV u8 (List.take 16 (List.drop 1 (List.take 17 (List.take 18 D))))[7]? = true then
 (if isIntV u8 (List.take 16 (List.drop 1 (List.take 17 (List.take 18 (List.drop (0 + i.toNat * 19 + 0) C)))))[8]? = true then
 (if isIntV u8 (List.take 16 (List.drop 1 (List.take 17 (List.take 18 D))))[8]? = true then
 (if isIntV u8 (List.take 16 (List.drop 1 (List.take 17 (List.take 18 (List.drop (0 + i.toNat * 19 + 0) C)))))[9]? = true then
 (if isIntV u8 (List.take 16 (List.drop 1 (List.take 17 (List.take 18 D))))[9]? = true then
 (if isIntV u8 (List.take 16 (List.drop 1 (List.take 17 (List.take 18 (List.drop (0 + i.toNat * 19 + 0) C)))))[10]? = true then
 (if isIntV u8 (List.take 16 (List.drop 1 (List.take 17 (List.take 18 D))))[10]? = true then
 (if isIntV u8 (List.take 16 (List.drop 1 (List.take 17 (List.take 18 (List.drop (0 + i.toNat * 19 + 0) C)))))[11]? = true then
 (if isIntV u8 (List.take 16 (List.drop 1 (List.take 17 (List.take 18 D))))[11]? = true then
 (if isIntV u8 (List.take 16 (List.drop 1 (List.take 17 (List.take 18 (List.drop (0 + i.toNat * 19 + 0) C)))))[12]? = true then
 (if isIntV u8 (List.take 16 (List.drop 1 (List.take 17 (List.take 18 D))))[12]? = true then
 (if isIntV u8 (List.take 16 (List.drop 1 (List.take 17 (List.take 18 (List.drop (0 + i.toNat * 19 + 0) C)))))[13]? = true then
 (if isIntV u8 (List.take 16 (List.drop 1 (List.take 17 (List.take 18 D))))[13]? = true then
 (if isIntV u8 (List.take 16 (List.drop 1 (List.take 17 (List.take 18 (List.drop (0 + i.toNat * 19 + 0) C)))))[14]? = true then
 (if isIntV u8 (List.take 16 (List.drop 1 (List.take 17 (List.take 18 D))))[14]? = true then
 (if isIntV u8 (List.take 16 (List.drop 1 (List.take 17 (List.take 18 (List.drop (0 + i.toNat * 19 + 0) C)))))[15]? = true then
 (if isIntV u8 (List.take 16 (List.drop 1 (List.take 17 (List.take 18 D))))[15]? = true then
 (if isIntV u16 (List.take 18 (List.drop (0 + i.toNat * 19 + 0) C))[17]? = true then
 (if isIntV u16 (List.take 18 D)[17]? = true then
 (if (!(boolV (List.take 17 (List.take 18 (List.drop (0 + i.toNat * 19 + 0) C)))[0]? == boolV (List.take 17 (List.take 18 D))[0]? && (intV (List.take 16 (List.drop 1 (List.take 17 (List.take 18 (List.drop (0 + i.toNat * 19 + 0) C)))))[0]? == intV (List.take 16 (List.drop 1 (List.take 17 (List.take 18 D))))[0]? && (intV (List.take 16 (List.drop 1 (List.take 17 (List.take 18 (List.drop (0 + i.toNat * 19 + 0) C)))))[1]? == intV (List.take 16 (List.drop 1 (List.take 17 (List.take 18 D))))[1]? && (intV (List.take 16 (List.drop 1 (List.take 17 (List.take 18 (List.drop (0 + i.toNat * 19 + 0) C)))))[2]? == intV (List.take 16 (List.drop 1 (List.take 17 (List.take 18 D))))[2]? && (intV (List.take 16 (List.drop 1 (List.take 17 (List.take 18 (List.drop (0 + i.toNat * 19 + 0) C)))))[3]? == intV (List.take 16 (List.drop 1 (List.take 17 (List.take 18 D))))[3]? && (intV (List.take 16 (List.drop 1 (List.take 17 (List.take 18 (List.drop (0 + i.toNat * 19 + 0) C)))))[4]? == intV (List.take 16 (List.drop 1 (List.take 17 (List.take 18 D))))[4]? && (intV (List.take 16 (List.drop 1 (List.take 17 (List.take 18 (List.drop (0 + i.toNat * 19 + 0) C)))))[5]? == intV (List.take 16 (List.drop 1 (List.take 17 (List.take 18 D))))[5]? && (intV (List.take 16 (List.drop 1 (List.take 17 (List.take 18 (List.drop (0 + i.toNat * 19 + 0) C)))))[6]? == intV (List.take 16 (List.drop 1 (List.take 17 (List.take 18 D))))[6]? && (intV (List.take 16 (List.drop 1 (List.take 17 (List.take 18 (List.drop (0 + i.toNat * 19 + 0) C)))))[7]? == intV (List.take 16 (List.drop 1 (List.take 17 (List.take 18 D))))[7]? && (intV (List.take 16 (List.drop 1 (List.take 17 (List.take 18 (List.drop (0 + i.toNat * 19 + 0) C)))))[8]? == intV (List.take 16 (List.drop 1 (List.take 17 (List.take 18 D))))[8]? && (intV (List.take 16 (List.drop 1 (List.take 17 (List.take 18 (List.drop (0 + i.toNat * 19 + 0) C)))))[9]? == intV (List.take 16 (List.drop 1 (List.take 17 (List.take 18 D))))[9]? && (intV (List.take 16 (List.drop 1 (List.take 17 (List.take 18 (List.drop (0 + i.toNat * 19 + 0) C)))))[10]? == intV (List.take 16 (List.drop 1 (List.take 17 (List.take 18 D))))[10]? && (intV (List.take 16 (List.drop 1 (List.take 17 (List.take 18 (List.drop (0 + i.toNat * 19 + 0) C)))))[11]? == intV (List.take 16 (List.drop 1 (List.take 17 (List.take 18 D))))[11]? && (intV (List.take 16 (List.drop 1 (List.take 17 (List.take 18 (List.drop (0 + i.toNat * 19 + 0) C)))))[12]? == intV (List.take 16 (List.drop 1 (List.take 17 (List.take 18 D))))[12]? && (intV (List.take 16 (List.drop 1 (List.take 17 (List.take 18 (List.drop (0 + i.toNat * 19 + 0) C)))))[13]? == intV (List.take 16 (List.drop 1 (List.take 17 (List.take 18 D))))[13]? && (intV (List.take 16 (List.drop 1 (List.take 17 (List.take 18 (List.drop (0 + i.toNat * 19 + 0) C)))))[14]? == intV (List.take 16 (List.drop 1 (List.take 17 (List.take 18 D))))[14]? && (intV (List.take 16 (List.drop 1 (List.take 17 (List.take 18 (List.drop (0 + i.toNat * 19 + 0) C)))))[15]? == intV (List.take 16 (List.drop 1 (List.take 17 (List.take 18 D))))[15]? && true))))))))))))))) && true) && (intV (List.take 18 (List.drop (0 + i.toNat * 19 + 0) C))[17]? == intV (List.take 18 D)[17]? && true))) = false then
 (if 0 ≤ i ∧ i ≤ (((capOf n 0 false) : Nat) : Int) then
 (if 0 + (i.toNat - 0) * 19 ≤ C.length then
 (if (2 * (0 + (i.toNat - 0)) + 200) * 32 ≤ 281474976710656 ∧ some 19 = some 19 ∧ 0 + (i.toNat - 0) ≤ 70368744177664 then
 (if 0 = 0 ∧ 0 = 0 ∧ (0 < i.toNat - 0 ∨ 0 = 0) ∧ 19 = 19 ∧ (List.take ((i.toNat - 0) * 19) C).all AV.isCell = true then
 (if 0 ≤ i64.wrap (i + 1) ∧ i64.wrap (i + 1) ≤ (n : Int) then
 (if 0 + (i64.wrap (i + 1)).toNat * 19 + (n - (i64.wrap (i + 1)).toNat) * 19 ≤ C.length then
 (if (2 * (0 + (i.toNat - 0) + (n - (i64.wrap (i + 1)).toNat)) + 200) * 32 ≤ 281474976710656 ∧ some 19 = some 19 ∧ 0 + (i.toNat - 0) + (n - (i64.wrap (i + 1)).toNat) ≤ 70368744177664 then
 (if 0 + (0 + (i.toNat - 0)) * 19 ≤ (List.take ((i.toNat - 0) * 19) C).length then
 (if 0 = 0 ∧ 0 + (0 + (i.toNat - 0)) * 19 = (List.take ((i.toNat - 0) * 19) C).length ∧ (0 < n - (i64.wrap (i + 1)).toNat ∨ 0 = 0) ∧ 19 = 19 ∧ (List.take ((n - (i64.wrap (i + 1)).toNat) * 19) (List.drop (0 + (i64.wrap (i + 1)).toNat * 19) C)).all AV.isCell = true then
 (if (AV.sl (some (1, 0)) n 0 false).beq (AV.sl (some (1, 0)) n 0 false) = true then
 (if (AV.sl (some (1, 0)) n 0 false).beq (AV.sl (some (1, 0)) n 0 false) = true then
 (if (AV.sl (some (1, 0)) n 0 false).beq (AV.sl (some (1, 0)) n 0 false) = true then
 some ((AEx.ret, [AV.ptr (some (0, 0)), AV.bool true, AV.ptr (some (2, 0)), AV.bool false, int i64 0, int i64 i], (hRtw0 f n C D i)))
 else none) else none) else none) else none) else none) else none) else none) else none) else none) else none) else none) else none) else none) else none) else none) else none) else none) else none) else none) else none) else none) else none) else none) else none) else none) else none) else none) else none) else none) else none) else none) else none) else none) else none) else none) else none) else none) else none) else none) else none) else none) else none) else none) else none) else none) else none) else none) else none) else none) else none) else none) else none) else none) else none) else none) else none) else none) := by
  kernel_rfl

noncomputable def hRtn0 (f : Int) (n : Nat) (C D : List AV) (i : Int) : AHeap := [cells [int i64 f, AV.sl (some (1, 0)) n 0 false] 2 Md.own none, cells (putCells C (0 + i.toNat * 19 + 18) [int i64 (i64.wrap (intV C[0 + i.toNat * 19 + 18]? + 1))]) 19 Md.own none, ABlk.cells D 18 Md.own none]
theorem nfRtn (f : Int) (n : Nat) (C D : List AV) (i : Int) :
 qround Try.prog [] 100 4 [(19, .bool true), (31, .bool false)] noT RTL mRT (vRt false false 0 i) (hRt f n C D) =
 (if decide (i < (n : Int)) = true then
 (if 0 ≤ i ∧ i < (n : Int) then
 (if 0 + i.toNat * 19 + 0 + 18 ≤ C.length then
 (if 18 ≤ D.length then
 (if 17 ≤ (List.take 18 (List.drop (0 + i.toNat * 19 + 0) C)).length then
 (if 17 ≤ (List.take 18 D).length then
 (if isBoolV (List.take 17 (List.take 18 (List.drop (0 + i.toNat * 19 + 0) C)))[0]? = true then
 (if isBoolV (List.take 17 (List.take 18 D))[0]? = true then
 (if 17 ≤ (List.take 17 (List.take 18 (List.drop (0 + i.toNat * 19 + 0) C))).length then
 (if 17 ≤ (List.take 17 (List.take 18 D)).length then
 (if isIntV u8 (List.take 16 (List.drop 1 (List.take 17 (List.take 18 (List.drop (0 + i.toNat * 19 + 0) C)))))[0]? = true then
 (if isIntV u8 (List.take 16 (List.drop 1 (List.take 17 (List.take 18 D))))[0]? = true then
 (if isIntV u8 (List.take 16 (List.drop 1 (List.take 17 (List.take 18 (List.drop (0 + i.toNat * 19 + 0) C)))))[1]? = true then
 (if isIntV u8 (List.take 16 (List.drop 1 (List.take 17 (List.take 18 D))))[1]? = true then
 (if isIntV u8 (List.take 16 (List.drop 1 (List.take 17 (List.take 18 (List.drop (0 + i.toNat * 19 + 0) C)))))[2]? = true then
 (if isIntV u8 (List.take 16 (List.drop 1 (List.take 17 (List.take 18 D))))[2]? = true then
 (if isIntV u8 (List.take 16 (List.drop 1 (List.take 17 (List.take 18 (List.drop (0 + i.toNat * 19 + 0) C)))))[3]? = true then
 (if isIntV u8 (List.take 16 (List.drop 1 (List.take 17 (List.take 18 D))))[3]? = true then
 (if isIntV u8 (List.take 16 (List.drop 1 (List.take 17 (List.take 18 (List.drop (0 + i.toNat * 19 + 0) C)))))[4]? = true then
 (if isIntV u8 (List.take 16 (List.drop 1 (List.take 17 (List.take 18 D))))[4]? = true then
 (if isIntV u8 (List.take 16 (List.drop 1 (List.take 17 (List.take 18 (List.drop (0 + i.toNat * 19 + 0) C)))))[5]? = true then
 (if isIntV u8 (List.take 16 (List.drop 1 (List.take 17 (List.take 18 D))))[5]? = true then
 (if isIntV u8 (List.take 16 (List.drop 1 (List.take 17 (List.take 18 (List.drop (0 + i.toNat * 19 + 0) C)))))[6]? = true then
 (if isIntV u8 (List.take 16 (List.drop 1 (List.take 17 (List.take 18 D))))[6]? = true then
 (if isIntV u8 (List.take 16 (List.drop 1 (List.take 17 (List.take 18 (List.drop (0 + i.toNat * 19 + 0) C)))))[7]? = true then
 (if isIntV u8 (List.take 16 (List.drop 1 (List.take 17 (List.take 18 D))))[7]? = true then
 (if isIntV u8 (List.take 16 (List.drop 1 (List.take 17 (List.take 18 (List.drop (0 + i.toNat * 19 + 0) C)))))[8]? = true then
 (if isIntV u8 (List.take 16 (List.drop 1 (List.take 17 (List.take 18 D))))[8]? = true then
 (if isIntV u8 (List.take 16 (List.drop 1 (List.take 17 (List.take 18 (List.drop (0 + i.toNat * 19 + 0) C)))))[9]? = true then
 (if isIntV u8 (List.take 16 (List.drop 1 (List.take 17 (List.take 18 D))))[9]? = true then
 (if isIntV u8 (List.take 16 (List.drop 1 (List.take 17 (List.take 18 (List.drop (0 + i.toNat * 19 + 0) C)))))[10]? = true then
 (if isIntV u8 (List.take 16 (List.drop 1 (List.take 17 (List.take 18 D))))[10]? = true then
 (if isIntV u8 (List.take 16 (List.drop 1 (List.take 17 (List.take 18 (List.drop (0 + i.toNat * 19 + 0) C)))))[11]? = true then
 (if isIntV u8 (List.take 16 (List.drop 1 (List.take 17 (List.take 18 D))))[11]? = true then
 (if isIntV u8 (List.take 16 (List.drop 1 (List.take 17 (List.take 18 (List.drop (0 + i.toNat * 19 + 0) C)))))[12]? = true then
 (if isIntV u8 (List.take 16 (List.drop 1 (List.take 17 (List.take 18 D))))[12]? = true then
 (if isIntV u8 (List.take 16 (List.drop 1 (List.take 17 (List.take 18 (List.drop (0 + i.toNat * 19 + 0) C)))))[13]? = true then
 (if isIntV u8 (List.take 16 (List.drop 1 (List.take 17 (List.take 18 D))))[13]? = true then
 (if isIntV u8 (List.take 16 (List.drop 1 (List.take 17 (List.take 18 (List.drop (0 + i.toNat * 19 + 0) C)))))[14]? = true then
 (if isIntV u8 (List.take 16 (List.drop 1 (List.take 17 (List.take 18 D))))[14]? = true then
 (if isIntV u8 (List.take 16 (List.drop 1 (List.take 17 (List.take 18 (List.drop (0 + i.toNat * 19 + 0) C)))))[15]? = true then
 (if isIntV u8 (List.take 16 (List.drop 1 (List.take 17 (List.take 18 D))))[15]? = true then
 (if isIntV u16 (List.take 18 (List.drop (0 + i.toNat * 19 + 0) C))[17]? = true then
 (if isIntV u16 (List.take 18 D)[17]? = true then
 (if (!(boolV (List.take 17 (List.take 18 (List.drop (0 + i.toNat * 19 + 0) C)))[0]? == boolV (List.take 17 (List.take 18 D))[0]? && (intV (List.take 16 (List.drop 1 (List.take 17 (List.take 18 (List.drop (0 + i.toNat * 19 + 0) C)))))[0]? == intV (List.take 16 (List.drop 1 (List.take 17 (List.take 18 D))))[0]? && (intV (List.take 16 (List.drop 1 (List.take 17 (List.take 18 (List.drop (0 + i.toNat * 19 + 0) C)))))[1]? == intV (List.take 16 (List.drop 1 (List.take 17 (List.take 18 D))))[1]? && (intV (List.take 16 (List.drop 1 (List.take 17 (List.take 18 (List.drop (0 + i.toNat * 19 + 0) C)))))[2]? == intV (List.take 16 (List.drop 1 (List.take 17 (List.take 18 D))))[2]? && (intV (List.take 16 (List.drop 1 (List.take 17 (List.take 18 (List.drop (0 + i.toNat * 19 + 0) C)))))[3]? == intV (List.take 16 (List.drop 1 (List.take 17 (List.take 18 D))))[3]? && (intV (List.take 16 (List.drop 1 (List.take 17 (List.take 18 (List.drop (0 + i.toNat * 19 + 0) C)))))[4]? == intV (List.take 16 (List.drop 1 (List.take 17 (List.take 18 D))))[4]? && (intV (List.take 16 (List.drop 1 (List.take 17 (List.take 18 (List.drop (0 + i.toNat * 19 + 0) C)))))[5]? == intV (List.take 16 (List.drop 1 (List.take 17 (List.take 18 D))))[5]? && (intV (List.take 16 (List.drop 1 (List.take 17 (List.take 18 (List.drop (0 + i.toNat * 19 + 0) C)))))[6]? == intV (List.take 16 (List.drop 1 (List.take 17 (List.take 18 D))))[6]? && (intV (List.take 16 (List.drop 1 (List.take 17 (List.take 18 (List.drop (0 + i.toNat * 19 + 0) C)))))[7]? == intV (List.take 16 (List.drop 1 (List.take 17 (List.take 18 D))))[7]? && (intV (List.take 16 (List.drop 1 (List.take 17 (List.take 18 (List.drop (0 + i.toNat * 19 + 0) C)))))[8]? == intV (List.take 16 (List.drop 1 (List.take 17 (List.take 18 D))))[8]? && (intV (List.take 16 (List.drop 1 (List.take 17 (List.take 18 (List.drop (0 + i.toNat * 19 + 0) C)))))[9]? == intV (List.take 16 (List.drop 1 (List.take 17 (List.take 18 D))))[9]? && (intV (List.take 16 (List.drop 1 (List.take 17 (List.take 18 (List.drop (0 + i.toNat * 19 + 0) C)))))[10]? == intV (List.take 16 (List.drop 1 (List.take 17 (List.take 18 D))))[10]? && (intV (List.take 16 (List.drop 1 (List.take 17 (List.take 18 (List.drop (0 + i.toNat * 19 + 0) C)))))[11]? == intV (List.take 16 (List.drop 1 (List.take 17 (List.take 18 D))))[11]? && (intV (List.take 16 (List.drop 1 (List.take 17 (List.take 18 (List.drop (0 + i.toNat * 19 + 0) C)))))[12]? == intV (List.take 16 (List.drop 1 (List.take 17 (List.take 18 D))))[12]? && (intV (List.take 16 (List.drop 1 (List.take 17 (List.take 18 (List.drop (0 + i.toNat * 19 + 0) C)))))[13]? == intV (List.take 16 (List.drop 1 (List.take 17 (List.take 18 D))))[13]? && (intV (List.take 16 (List.drop 1 (List.take 17 (List.take 18 (List.drop (0 + i.toNat * 19 + 0) C)))))[14]? == intV (List.take 16 (List.drop 1 (List.take 17 (List.take 18 D))))[14]? && (intV (List.take 16 (List.drop 1 (List.take 17 (List.take 18 (List.drop (0 + i.toNat * 19 + 0) C)))))[15]? == intV (List.take 16 (List.drop 1 (List.take 17 (List.take 18 D))))[15]? && true))))))))))))))) && true) && (intV (List.take 18 (List.drop (0 + i.toNat * 19 + 0) C))[17]? == intV (List.take 18 D)[17]? && true))) = false then
 (if 0 ≤ i ∧ i < (n : Int) then
 (if isIntV i64 C[0 + i.toNat * 19 + 18]? = true then
 (if 0 ≤ i ∧ i < (n : Int) then
 (if 0 + i.toNat * 19 + 18 + [int i64 (i64.wrap (intV C[0 + i.toNat * 19 + 18]? + 1))].length ≤ C.length ∧ [int i64 (i64.wrap (intV C[0 + i.toNat * 19 + 18]? + 1))].all AV.isCell = true then
 (if 0 ≤ i ∧ i < (n : Int) then
 (if isIntV i64 (putCells C (0 + i.toNat * 19 + 18) [int i64 (i64.wrap (intV C[0 + i.toNat * 19 + 18]? + 1))])[0 + i.toNat * 19 + 18]? = true then
 some ((AEx.ret, [AV.ptr (some (0, 0)), AV.bool false, AV.ptr (some (2, 0)), AV.bool (intV (putCells C (0 + i.toNat * 19 + 18) [int i64 (i64.wrap (intV C[0 + i.toNat * 19 + 18]? + 1))])[0 + i.toNat * 19 + 18]? == intV (some (int i64 f))), int i64 0, int i64 i], (hRtn0 f n C D i)))
 else none) else none) else none) else none) else none) else none) else none) else none) else none) else none) else none) else none) else none) else none) else none) else none) else none) else none) else none) else none) else none) else none) else none) else none) else none) else none) else none) else none) else none) else none) else none) else none) else none) else none) else none) else none) else none) else none) else none) else none) else none) else none) else none) else none) else none) else none) else none) else none) else none) else none) else none) := by
  kernel_rfl

noncomputable def hRts0 (f : Int) (n : Nat) (C D : List AV) (w : Bool) (i : Int) : AHeap := [cells [int i64 f, AV.sl (some (1, 0)) n 0 false] 2 Md.own none, ABlk.cells C 19 Md.own none, ABlk.cells D 18 Md.own none]
theorem nfRts (f : Int) (n : Nat) (C D : List AV) (w : Bool) (i : Int) :
 qround Try.prog [] 100 4 [(19, .bool false)] noT RTL mRT (vRt w false 0 i) (hRt f n C D) =
 (if decide (i < (n : Int)) = false then
 some ((AEx.exit 0, [AV.ptr (some (0, 0)), AV.bool w, AV.ptr (some (2, 0)), AV.bool false, int i64 0, int i64 i], (hRts0 f n C D w i)))
 else none) := by
  kernel_rfl

noncomputable def hRca0 (f : Int) (n : Nat) (C D : List AV) (i : Int) : AHeap := [cells [int i64 f, AV.sl (some (1, 0)) n 0 false] 2 Md.own none, ABlk.cells C 19 Md.own none, ABlk.cells D 18 Md.own none]
theorem nfRca (f : Int) (n : Nat) (C D : List AV) (i : Int) :
 qround Try.prog [] 100 4 [(12, .bool true), (24, .bool false)] noT RCL mRC (vRc 0 i) (hRt f n C D) =
 (if decide (i < (n : Int)) = true then
 (if 0 ≤ i ∧ i < (n : Int) then
 (if 0 + i.toNat * 19 + 0 + 18 ≤ C.length then
 (if 18 ≤ D.length then
 (if 17 ≤ (List.take 18 (List.drop (0 + i.toNat * 19 + 0) C)).length then
 (if 17 ≤ (List.take 18 D).length then
 (if isBoolV (List.take 17 (List.take 18 (List.drop (0 + i.toNat * 19 + 0) C)))[0]? = true then
 (if isBoolV (List.take 17 (List.take 18 D))[0]? = true then
 (if 17 ≤ (List.take 17 (List.take 18 (List.drop (0 + i.toNat * 19 + 0) C))).length then
 (if 17 ≤ (List.take 17 (List.take 18 D)).length then
 (if isIntV u8 (List.take 16 (List.drop 1 (List.take 17 (List.take 18 (List.drop (0 + i.toNat * 19 + 0) C)))))[0]? = true then
 (if isIntV u8 (List.take 16 (List.drop 1 (List.take 17 (List.take 18 D))))[0]? = true then
 (if isIntV u8 (List.take 16 (List.drop 1 (List.take 17 (List.take 18 (List.drop (0 + i.toNat * 19 + 0) C)))))[1]? = true then
 (if isIntV u8 (List.take 16 (List.drop 1 (List.take 17 (List.take 18 D))))[1]? = true then
 (if isIntV u8 (List.take 16 (List.drop 1 (List.take 17 (List.take 18 (List.drop (0 + i.toNat * 19 + 0) C)))))[2]? = true then
 (if isIntV u8 (List.take 16 (List.drop 1 (List.take 17 (List.take 18 D))))[2]? = true then
 (if isIntV u8 (List.take 16 (List.drop 1 (List.take 17 (List.take 18 (List.drop (0 + i.toNat * 19 + 0) C)))))[3]? = true then
 (if isIntV u8 (List.take 16 (List.drop 1 (List.take 17 (List.take 18 D))))[3]? = true then
 (if isIntV u8 (List.take 16 (List.drop 1 (List.take 17 (List.take 18 (List.drop (0 + i.toNat * 19 + 0) C)))))[4]? = true then
 (if isIntV u8 (List.take 16 (List.drop 1 (List.take 17 (List.take 18 D))))[4]? = true then
 (if isIntV u8 (List.take 16 (List.drop 1 (List.take 17 (List.take 18 (List.drop (0 + i.toNat * 19 + 0) C)))))[5]? = true then
 (if isIntV u8 (List.take 16 (List.drop 1 (List.take 17 (List.take 18 D))))[5]? = true then
 (if isIntV u8 (List.take 16 (List.drop 1 (List.take 17 (List.take 18 (List.drop (0 + i.toNat * 19 + 0) C)))))[6]? = true then
 (if isIntV u8 (List.take 16 (List.drop 1 (List.take 17 (List.take 18 D))))[6]? = true then
 (if isIntV u8 (List.take 16 (List.drop 1 (List.take 17 (List.take 18 (List.drop (0 + i.toNat * 19 + 0) C)))))[7]? = true then
 (if isIntV u8 (List.take 16 (List.drop 1 (List.take 17 (List.take 18 D))))[7]? = true then
 (if isIntV u8 (List.take 16 (List.drop 1 (List.take 17 (List.take 18 (List.drop (0 + i.toNat * 19 + 0) C)))))[8]? = true then
 (if isIntV u8 (List.take 16 (List.drop 1 (List.take 17 (List.take 18 D))))[8]? = true then
 (if isIntV u8 (List.take 16 (List.drop 1 (List.take 17 (List.take 18 (List.drop (0 + i.toNat * 19 + 0) C)))))[9]? = true then
 (if isIntV u8 (List.take 16 (List.drop 1 (List.take 17 (List.take 18 D))))[9]? = true then
 (if isIntV u8 (List.take 16 (List.drop 1 (List.take 17 (List.take 18 (List.drop (0 + i.toNat * 19 + 0) C)))))[10]? = true then
 (if isIntV u8 (List.take 16 (List.drop 1 (List.take 17 (List.take 18 D))))[10]? = true then
 (if isIntV u8 (List.take 16 (List.drop 1 (List.take 17 (List.take 18 (List.drop (0 + i.toNat * 19 + 0) C)))))[11]? = true then
 (if isIntV u8 (List.take 16 (List.drop 1 (List.take 17 (List.take 18 D))))[11]? = true then
 (if isIntV u8 (List.take 16 (List.drop 1 (List.take 17 (List.take 18 (List.drop (0 + i.toNat * 19 + 0) C)))))[12]? = true then
 (if isIntV u8 (List.take 16 (List.drop 1 (List.take 17 (List.take 18 D))))[12]? = true then
 (if isIntV u8 (List.take 16 (List.drop 1 (List.take 17 (List.take 18 (List.drop (0 + i.toNat * 19 + 0) C)))))[13]? = true then
 (if isIntV u8 (List.take 16 (List.drop 1 (List.take 17 (List.take 18 D))))[13]? = true then
 (if isIntV u8 (List.take 16 (List.drop 1 (List.take 17 (List.take 18 (List.drop (0 + i.toNat * 19 + 0) C)))))[14]? = true then
 (if isIntV u8 (List.take 16 (List.drop 1 (List.take 17 (List.take 18 D))))[14]? = true then
 (if isIntV u8 (List.take 16 (List.drop 1 (List.take 17 (List.take 18 (List.drop (0 + i.toNat * 19 + 0) C)))))[15]? = true then
 (if isIntV u8 (List.take 16 (List.drop 1 (List.take 17 (List.take 18 D))))[15]? = true then
 (if isIntV u16 (List.take 18 (List.drop (0 + i.toNat * 19 + 0) C))[17]? = true then
 (if isIntV u16 (List.take 18 D)[17]? = true then
 (if (boolV (List.take 17 (List.take 18 (List.drop (0 + i.toNat * 19 + 0) C)))[0]? == boolV (List.take 17 (List.take 18 D))[0]? && (intV (List.take 16 (List.drop 1 (List.take 17 (List.take 18 (List.drop (0 + i.toNat * 19 + 0) C)))))[0]? == intV (List.take 16 (List.drop 1 (List.take 17 (List.take 18 D))))[0]? && (intV (List.take 16 (List.drop 1 (List.take 17 (List.take 18 (List.drop (0 + i.toNat * 19 + 0) C)))))[1]? == intV (List.take 16 (List.drop 1 (List.take 17 (List.take 18 D))))[1]? && (intV (List.take 16 (List.drop 1 (List.take 17 (List.take 18 (List.drop (0 + i.toNat * 19 + 0) C)))))[2]? == intV (List.take 16 (List.drop 1 (List.take 17 (List.take 18 D))))[2]? && (intV (List.take 16 (List.drop 1 (List.take 17 (List.take 18 (List.drop (0 + i.toNat * 19 + 0) C)))))[3]? == intV (List.take 16 (List.drop 1 (List.take 17 (List.take 18 D))))[3]? && (intV (List.take 16 (List.drop 1 (List.take 17 (List.take 18 (List.drop (0 + i.toNat * 19 + 0) C)))))[4]? == intV (List.take 16 (List.drop 1 (List.take 17 (List.take 18 D))))[4]? && (intV (List.take 16 (List.drop 1 (List.take 17 (List.take 18 (List.drop (0 + i.toNat * 19 + 0) C)))))[5]? == intV (List.take 16 (List.drop 1 (List.take 17 (List.take 18 D))))[5]? && (intV (List.take 16 (List.drop 1 (List.take 17 (List.take 18 (List.drop (0 + i.toNat * 19 + 0) C)))))[6]? == intV (List.take 16 (List.drop 1 (List.take 17 (List.take 18 D))))[6]? && (intV (List.take 16 (List.drop 1 (List.take 17 (List.take 18 (List.drop (0 + i.toNat * 19 + 0) C)))))[7]? == intV (List.take 16 (List.drop 1 (List.take 17 (List.take 18 D))))[7]? && (intV (List.take 16 (List.drop 1 (List.take 17 (List.take 18 (List.drop (0 + i.toNat * 19 + 0) C)))))[8]? == intV (List.take 16 (List.drop 1 (List.take 17 (List.take 18 D))))[8]? && (intV (List.take 16 (List.drop 1 (List.take 17 (List.take 18 (List.drop (0 + i.toNat * 19 + 0) C)))))[9]? == intV (List.take 16 (List.drop 1 (List.take 17 (List.take 18 D))))[9]? && (intV (List.take 16 (List.drop 1 (List.take 17 (List.take 18 (List.drop (0 + i.toNat * 19 + 0) C)))))[10]? == intV (List.take 16 (List.drop 1 (List.take 17 (List.take 18 D))))[10]? && (intV (List.take 16 (List.drop 1 (List.take 17 (List.take 18 (List.drop (0 + i.toNat * 19 + 0) C)))))[11]? == intV (List.take 16 (List.drop 1 (List.take 17 (List.take 18 D))))[11]? && (intV (List.take 16 (List.drop 1 (List.take 17 (List.take 18 (List.drop (0 + i.toNat * 19 + 0) C)))))[12]? == intV (List.take 16 (List.drop 1 (List.take 17 (List.take 18 D))))[12]? && (intV (List.take 16 (List.drop 1 (List.take 17 (List.take 18 (List.drop (0 + i.toNat * 19 + 0) C)))))[13]? == intV (List.take 16 (List.drop 1 (List.take 17 (List.take 18 D))))[13]? && (intV (List.take 16 (List.drop 1 (List.take 17 (List.take 18 (List.drop (0 + i.toNat * 19 + 0) C)))))[14]? == intV (List.take 16 (List.drop 1 (List.take 17 (List.take 18 D))))[14]? && (intV (List.take 16 (List.drop 1 (List.take 17 (List.take 18 (List.drop (0 + i.toNat * 19 + 0) C)))))[15]? == intV (List.take 16 (List.drop 1 (List.take 17 (List.take 18 D))))[15]? && true))))))))))))))) && true) && (intV (List.take 18 (List.drop (0 + i.toNat * 19 + 0) C))[17]? == intV (List.take 18 D)[17]? && true)) = false then
 some ((AEx.norm, [AV.ptr (some (0, 0)), AV.ptr (some (2, 0)), int i64 0, int i64 (i64.wrap (i + 1))], (hRca0 f n C D i)))
 else none) else none) else none) else none) else none) else none) else none) else none) else none) else none) else none) else none) else none) else none) else none) else none) else none) else none) else none) else none) else none) else none) else none) else none) else none) else none) else none) else none) else none) else none) else none) else none) else none) else none) else none) else none) else none) else none) else none) else none) else none) else none) else none) else none) else none) := by
  kernel_rfl

noncomputable def hRcb0 (f : Int) (n : Nat) (C D : List AV) (i : Int) : AHeap := [cells [int i64 f, AV.sl (some (1, 0)) n 0 false] 2 Md.own none, ABlk.cells C 19 Md.own none, ABlk.cells D 18 Md.own none]
theorem nfRcb (f : Int) (n : Nat) (C D : List AV) (i : Int) :
 qround Try.prog [] 100 4 [(12, .bool true), (24, .bool true)] noT RCL mRC (vRc 0 i) (hRt f n C D) =
 (if decide (i < (n : Int)) = true then
 (if 0 ≤ i ∧ i < (n : Int) then
 (if 0 + i.toNat * 19 + 0 + 18 ≤ C.length then
 (if 18 ≤ D.length then
 (if 17 ≤ (List.take 18 (List.drop (0 + i.toNat * 19 + 0) C)).length then
 (if 17 ≤ (List.take 18 D).length then
 (if isBoolV (List.take 17 (List.take 18 (List.drop (0 + i.toNat * 19 + 0) C)))[0]? = true then
 (if isBoolV (List.take 17 (List.take 18 D))[0]? = true then
 (if 17 ≤ (List.take 17 (List.take 18 (List.drop (0 + i.toNat * 19 + 0) C))).length then
 (if 17 ≤ (List.take 17 (List.take 18 D)).length then
 (if isIntV u8 (List.take 16 (List.drop 1 (List.take 17 (List.take 18 (List.drop (0 + i.toNat * 19 + 0) C)))))[0]? = true then
 (if isIntV u8 (List.take 16 (List.drop 1 (List.take 17 (List.take 18 D))))[0]? = true then
 (if isIntV u8 (List.take 16 (List.drop 1 (List.take 17 (List.take 18 (List.drop (0 + i.toNat * 19 + 0) C)))))[1]? = true then
 (if isIntV u8 (List.take 16 (List.drop 1 (List.take 17 (List.take 18 D))))[1]? = true then
 (if isIntV u8 (List.take 16 (List.drop 1 (List.take 17 (List.take 18 (List.drop (0 + i.toNat * 19 + 0) C)))))[2]? = true then
 (if isIntV u8 (List.take 16 (List.drop 1 (List.take 17 (List.take 18 D))))[2]? = true then
 (if isIntV u8 (List.take 16 (List.drop 1 (List.take 17 (List.take 18 (List.drop (0 + i.toNat * 19 + 0) C)))))[3]? = true then
 (if isIntV u8 (List.take 16 (List.drop 1 (List.take 17 (List.take 18 D))))[3]? = true then
 (if isIntV u8 (List.take 16 (List.drop 1 (List.take 17 (List.take 18 (List.drop (0 + i.toNat * 19 + 0) C)))))[4]? = true then
 (if isIntV u8 (List.take 16 (List.drop 1 (List.take 17 (List.take 18 D))))[4]? = true then
 (if isIntV u8 (List.take 16 (List.drop 1 (List.take 17 (List.take 18 (List.drop (0 + i.toNat * 19 + 0) C)))))[5]? = true then
 (if isIntV u8 (List.take 16 (List.drop 1 (List.take 17 (List.take 18 D))))[5]? = true then
 (if isIntV u8 (List.take 16 (List.drop 1 (List.take 17 (List.take 18 (List.drop (0 + i.toNat * 19 + 0) C)))))[6]? = true then
 (if isIntV u8 (List.take 16 (List.drop 1 (List.take 17 (List.take 18 D))))[6]? = true then
 (if isIntV u8 (List.take 16 (List.drop 1 (List.take 17 (List.take 18 (List.drop (0 + i.toNat * 19 + 0) C)))))[7]? = true then
 (if isIntV u8 (List.take 16 (List.drop 1 (List.take 17 (List.take 18 D))))[7]? = true then
 (if isIntV u8 (List.take 16 (List.drop 1 (List.take 17 (List.take 18 (List.drop (0 + i.toNat * 19 + 0) C)))))[8]? = true then
 (if isIntV u8 (List.take 16 (List.drop 1 (List.take 17 (List.take 18 D))))[8]? = true then
 (if isIntV u8 (List.take 16 (List.drop 1 (List.take 17 (List.take 18 (List.drop (0 + i.toNat * 19 + 0) C)))))[9]? = true then
 (if isIntV u8 (List.take 16 (List.drop 1 (List.take 17 (List.take 18 D))))[9]? = true then
 (if isIntV u8 (List.take 16 (List.drop 1 (List.take 17 (List.take 18 (List.drop (0 + i.toNat * 19 + 0) C)))))[10]? = true then
 (if isIntV u8 (List.take 16 (List.drop 1 (List.take 17 (List.take 18 D))))[10]? = true then
 (if isIntV u8 (List.take 16 (List.drop 1 (List.take 17 (List.take 18 (List.drop (0 + i.toNat * 19 + 0) C)))))[11]? = true then
 (if isIntV u8 (List.take 16 (List.drop 1 (List.take 17 (List.take 18 D))))[11]? = true then
 (if isIntV u8 (List.take 16 (List.drop 1 (List.take 17 (List.take 18 (List.drop (0 + i.toNat * 19 + 0) C)))))[12]? = true then
 (if isIntV u8 (List.take 16 (List.drop 1 (List.take 17 (List.take 18 D))))[12]? = true then
 (if isIntV u8 (List.take 16 (List.drop 1 (List.take 17 (List.take 18 (List.drop (0 + i.toNat * 19 + 0) C)))))[13]? = true then
 (if isIntV u8 (List.take 16 (List.drop 1 (List.take 17 (List.take 18 D))))[13]? = true then
 (if isIntV u8 (List.take 16 (List.drop 1 (List.take 17 (List.take 18 (List.drop (0 + i.toNat * 19 + 0) C)))))[14]? = true then
 (if isIntV u8 (List.take 16 (List.drop 1 (List.take 17 (List.take 18 D))))[14]? = true then
 (if isIntV u8 (List.take 16 (List.drop 1 (List.take 17 (List.take 18 (List.drop (0 + i.toNat * 19 + 0) C)))))[15]? = true then
 (if isIntV u8 (List.take 16 (List.drop 1 (List.take 17 (List.take 18 D))))[15]? = true then
 (if isIntV u16 (List.take 18 (List.drop (0 + i.toNat * 19 + 0) C))[17]? = true then
 (if isIntV u16 (List.take 18 D)[17]? = true then
 (if (boolV (List.take 17 (List.take 18 (List.drop (0 + i.toNat * 19 + 0) C)))[0]? == boolV (List.take 17 (List.take 18 D))[0]? && (intV (List.take 16 (List.drop 1 (List.take 17 (List.take 18 (List.drop (0 + i.toNat * 19 + 0) C)))))[0]? == intV (List.take 16 (List.drop 1 (List.take 17 (List.take 18 D))))[0]? && (intV (List.take 16 (List.drop 1 (List.take 17 (List.take 18 (List.drop (0 + i.toNat * 19 + 0) C)))))[1]? == intV (List.take 16 (List.drop 1 (List.take 17 (List.take 18 D))))[1]? && (intV (List.take 16 (List.drop 1 (List.take 17 (List.take 18 (List.drop (0 + i.toNat * 19 + 0) C)))))[2]? == intV (List.take 16 (List.drop 1 (List.take 17 (List.take 18 D))))[2]? && (intV (List.take 16 (List.drop 1 (List.take 17 (List.take 18 (List.drop (0 + i.toNat * 19 + 0) C)))))[3]? == intV (List.take 16 (List.drop 1 (List.take 17 (List.take 18 D))))[3]? && (intV (List.take 16 (List.drop 1 (List.take 17 (List.take 18 (List.drop (0 + i.toNat * 19 + 0) C)))))[4]? == intV (List.take 16 (List.drop 1 (List.take 17 (List.take 18 D))))[4]? && (intV (List.take 16 (List.drop 1 (List.take 17 (List.take 18 (List.drop (0 + i.toNat * 19 + 0) C)))))[5]? == intV (List.take 16 (List.drop 1 (List.take 17 (List.take 18 D))))[5]? && (intV (List.take 16 (List.drop 1 (List.take 17 (List.take 18 (List.drop (0 + i.toNat * 19 + 0) C)))))[6]? == intV (List.take 16 (List.drop 1 (List.take 17 (List.take 18 D))))[6]? && (intV (List.take 16 (List.drop 1 (List.take 17 (List.take 18 (List.drop (0 + i.toNat * 19 + 0) C)))))[7]? == intV (List.take 16 (List.drop 1 (List.take 17 (List.take 18 D))))[7]? && (intV (List.take 16 (List.drop 1 (List.take 17 (List.take 18 (List.drop (0 + i.toNat * 19 + 0) C)))))[8]? == intV (List.take 16 (List.drop 1 (List.take 17 (List.take 18 D))))[8]? && (intV (List.take 16 (List.drop 1 (List.take 17 (List.take 18 (List.drop (0 + i.toNat * 19 + 0) C)))))[9]? == intV (List.take 16 (List.drop 1 (List.take 17 (List.take 18 D))))[9]? && (intV (List.take 16 (List.drop 1 (List.take 17 (List.take 18 (List.drop (0 + i.toNat * 19 + 0) C)))))[10]? == intV (List.take 16 (List.drop 1 (List.take 17 (List.take 18 D))))[10]? && (intV (List.take 16 (List.drop 1 (List.take 17 (List.take 18 (List.drop (0 + i.toNat * 19 + 0) C)))))[11]? == intV (List.take 16 (List.drop 1 (List.take 17 (List.take 18 D))))[11]? && (intV (List.take 16 (List.drop 1 (List.take 17 (List.take 18 (List.drop (0 + i.toNat * 19 + 0) C)))))[12]? == intV (List.take 16 (List.drop 1 (List.take 17 (List.take 18 D))))[12]? && (intV (List.take 16 (List.drop 1 (List.take 17 (List.take 18 (List.drop (0 + i.toNat * 19 + 0) C)))))[13]? == intV (List.take 16 (List.drop 1 (List.take 17 (List.take 18 D))))[13]? && (intV (List.take 16 (List.drop 1 (List.take 17 (List.take 18 (List.drop (0 + i.toNat * 19 + 0) C)))))[14]? == intV (List.take 16 (List.drop 1 (List.take 17 (List.take 18 D))))[14]? && (intV (List.take 16 (List.drop 1 (List.take 17 (List.take 18 (List.drop (0 + i.toNat * 19 + 0) C)))))[15]? == intV (List.take 16 (List.drop 1 (List.take 17 (List.take 18 D))))[15]? && true))))))))))))))) && true) && (intV (List.take 18 (List.drop (0 + i.toNat * 19 + 0) C))[17]? == intV (List.take 18 D)[17]? && true)) = true then
 (if 0 ≤ i ∧ i < (n : Int) then
 (if isIntV i64 C[0 + i.toNat * 19 + 18]? = true then
 some ((AEx.ret, [AV.ptr (some (0, 0)), AV.ptr (some (2, 0)), int i64 (intV C[0 + i.toNat * 19 + 18]?), int i64 i], (hRcb0 f n C D i)))
 else none) else none) else none) else none) else none) else none) else none) else none) else none) else none) else none) else none) else none) else none) else none) else none) else none) else none) else none) else none) else none) else none) else none) else none) else none) else none) else none) else none) else none) else none) else none) else none) else none) else none) else none) else none) else none) else none) else none) else none) else none) else none) else none) else none) else none) else none) else none) := by
  kernel_rfl

noncomputable def hRcs0 (f : Int) (n : Nat) (C D : List AV) (i : Int) : AHeap := [cells [int i64 f, AV.sl (some (1, 0)) n 0 false] 2 Md.own none, ABlk.cells C 19 Md.own none, ABlk.cells D 18 Md.own none]
theorem nfRcs (f : Int) (n : Nat) (C D : List AV) (i : Int) :
 qround Try.prog [] 100 4 [(12, .bool false)] noT RCL mRC (vRc 0 i) (hRt f n C D) =
 (if decide (i < (n : Int)) = false then
 some ((AEx.exit 0, [AV.ptr (some (0, 0)), AV.ptr (some (2, 0)), int i64 0, int i64 i], (hRcs0 f n C D i)))
 else none) := by
  kernel_rfl

noncomputable def hRcX0 (f : Int) (n : Nat) (C D : List AV) (q : Prop) (i : Int) : AHeap := [cells [int i64 f, AV.sl (some (1, 0)) n 0 false] 2 Md.own none, ABlk.cells C 19 Md.own none, ABlk.cells D 18 Md.own none]
theorem nfRcX {R : Type} (f : Int) (n : Nat) (C D : List AV) (q : Prop) (i : Int) (K : AV → AHeap → Option R) :
 qrun Try.prog [] 100 4 [] [(2, fixC q mRC (vRc 0 0) (hRt f n C D) (.exit 0) (vRc 0 i) (hRt f n C D))] 14 [.ptr (some (0, 0)), .agg D] (hRt0 f n C) K =
 (if cdec (q ∧ [AV.ptr (some (0, 0)), AV.ptr (some (2, 0)), int i64 0, int i64 0] = [AV.ptr (some (0, 0)), AV.ptr (some (2, 0)), int i64 0, int i64 0] ∧ (hRcX0 f n C D q i) = (hRcX0 f n C D q i)) = true then
 K (int i64 0) ((hRcX0 f n C D q i))
 else none) := by
  kernel_rfl

noncomputable def hRcY0 (f : Int) (n : Nat) (C D : List AV) (q : Prop) (r i : Int) : AHeap := [cells [int i64 f, AV.sl (some (1, 0)) n 0 false] 2 Md.own none, ABlk.cells C 19 Md.own none, ABlk.cells D 18 Md.own none]
theorem nfRcY {R : Type} (f : Int) (n : Nat) (C D : List AV) (q : Prop) (r i : Int) (K : AV → AHeap → Option R) :
 qrun Try.prog [] 100 4 [] [(2, fixC q mRC (vRc 0 0) (hRt f n C D) .ret (vRc r i) (hRt f n C D))] 14 [.ptr (some (0, 0)), .agg D] (hRt0 f n C) K =
 (if cdec (q ∧ [AV.ptr (some (0, 0)), AV.ptr (some (2, 0)), int i64 0, int i64 0] = [AV.ptr (some (0, 0)), AV.ptr (some (2, 0)), int i64 0, int i64 0] ∧ (hRcY0 f n C D q r i) = (hRcY0 f n C D q r i)) = true then
 K (int i64 r) ((hRcY0 f n C D q r i))
 else none) := by
  kernel_rfl

noncomputable def hRtI0 (f : Int) (n : Nat) (C D : List AV) (w : Bool) : AHeap := [cells [int i64 f, AV.sl (some (1, 0)) n 0 false] 2 Md.own none, ABlk.cells C 19 Md.own none, ABlk.cells D 18 Md.own none]
theorem nfRtI {R : Type} (f : Int) (n : Nat) (C D : List AV) (w : Bool) (K : AV → AHeap → Option R) :
 qrun Try.prog tRt 100 4 [(12, .bool true)] [] 12 [.ptr (some (0, 0)), .agg D, .bool w] (hRt0 f n C) K =
 (if 17 ≤ D.length then
 (if cdec (IsAdr (List.take 17 D)) = true then
 (if (!opq (adrValid (List.take 17 D))) = true then
 K (AV.tup [AV.bool false, int i64 1]) ((hRtI0 f n C D w))
 else none) else none) else none) := by
  kernel_rfl

noncomputable def hRtX0 (f : Int) (n : Nat) (C D : List AV) (q : Prop) (i : Int) : AHeap := [cells [int i64 f, AV.sl (some (1, 0)) n 0 false] 2 Md.own none, ABlk.cells C 19 Md.own none, ABlk.cells D 18 Md.own none]
theorem nfRtX {R : Type} (f : Int) (n : Nat) (C D : List AV) (q : Prop) (i : Int) (K : AV → AHeap → Option R) :
 qrun Try.prog tRt 100 4 [(12, .bool false)] [(4, fixC q mRT (vRt true false 0 0) (hRt f n C D) (.exit 0) (vRt true false 0 i) (hRt f n C D))] 12 [.ptr (some (0, 0)), .agg D, .bool true] (hRt0 f n C) K =
 (if 17 ≤ D.length then
 (if cdec (IsAdr (List.take 17 D)) = true then
 (if (!opq (adrValid (List.take 17 D))) = false then
 (if cdec (q ∧ [AV.ptr (some (0, 0)), AV.bool true, AV.ptr (some (2, 0)), AV.bool false, int i64 0, int i64 0] = [AV.ptr (some (0, 0)), AV.bool true, AV.ptr (some (2, 0)), AV.bool false, int i64 0, int i64 0] ∧ (hRtX0 f n C D q i) = (hRtX0 f n C D q i)) = true then
 K (AV.tup [AV.bool false, int i64 0]) ((hRtX0 f n C D q i))
 else none) else none) else none) else none) := by
  kernel_rfl

noncomputable def hRtZ0 (f : Int) (n : Nat) (C D : List AV) (q : Prop) (i : Int) : AHeap := [cells [int i64 f, AV.sl (some (1, 0)) n 0 false] 2 Md.own none, ABlk.cells C 19 Md.own none, ABlk.cells D 18 Md.own none]
noncomputable def hRtZ1 (f : Int) (n : Nat) (C D : List AV) (q : Prop) (i : Int) : AHeap := [cells [int i64 f, AV.sl (some (4, 0)) (n + 1) 0 false] 2 Md.own none, ABlk.cells C 19 Md.ro none, ABlk.cells D 18 Md.own none, cells (putCells [AV.bool false, int u8 0, int u8 0, int u8 0, int u8 0, int u8 0, int u8 0, int u8 0, int u8 0, int u8 0, int u8 0, int u8 0, int u8 0, int u8 0, int u8 0, int u8 0, int u8 0, int u16 0, int i64 0] 0 (putCells (putCells [AV.bool false, int u8 0, int u8 0, int u8 0, int u8 0, int u8 0, int u8 0, int u8 0, int u8 0, int u8 0, int u8 0, int u8 0, int u8 0, int u8 0, int u8 0, int u8 0, int u8 0, int u16 0, int i64 0] 0 (List.take 18 D)) 18 [int i64 1])) 19 Md.own none, cells (List.take (n * 19) C ++ List.take 19 (putCells [AV.bool false, int u8 0, int u8 0, int u8 0, int u8 0, int u8 0, int u8 0, int u8 0, int u8 0, int u8 0, int u8 0, int u8 0, int u8 0, int u8 0, int u8 0, int u8 0, int u8 0, int u16 0, int i64 0] 0 (putCells (putCells [AV.bool false, int u8 0, int u8 0, int u8 0, int u8 0, int u8 0, int u8 0, int u8 0, int u8 0, int u8 0, int u8 0, int u8 0, int u8 0, int u8 0, int u8 0, int u8 0, int u8 0, int u16 0, int i64 0] 0 (List.take 18 D)) 18 [int i64 1]))) 19 Md.own (some 1)]
theorem nfRtZ {R : Type} (f : Int) (n : Nat) (C D : List AV) (q : Prop) (i : Int) (K : AV → AHeap → Option R) :
 qrun Try.prog tRt 100 4 [(12, .bool false)] [(4, fixC q mRT (vRt false false 0 0) (hRt f n C D) (.exit 0) (vRt false false 0 i) (hRt f n C D))] 12 [.ptr (some (0, 0)), .agg D, .bool false] (hRt0 f n C) K =
 (if 17 ≤ D.length then
 (if cdec (IsAdr (List.take 17 D)) = true then
 (if (!opq (adrValid (List.take 17 D))) = false then
 (if cdec (q ∧ [AV.ptr (some (0, 0)), AV.bool false, AV.ptr (some (2, 0)), AV.bool false, int i64 0, int i64 0] = [AV.ptr (some (0, 0)), AV.bool false, AV.ptr (some (2, 0)), AV.bool false, int i64 0, int i64 0] ∧ (hRtZ0 f n C D q i) = (hRtZ0 f n C D q i)) = true then
 (if 18 ≤ D.length then
 (if (List.take 18 D).length = 18 ∧ 18 ≤ 19 then
 (if [int i64 1].length = 1 ∧ 19 ≤ (putCells [AV.bool false, int u8 0, int u8 0, int u8 0, int u8 0, int u8 0, int u8 0, int u8 0, int u8 0, int u8 0, int u8 0, int u8 0, int u8 0, int u8 0, int u8 0, int u8 0, int u8 0, int u16 0, int i64 0] 0 (List.take 18 D)).length then
 (if (putCells (putCells [AV.bool false, int u8 0, int u8 0, int u8 0, int u8 0, int u8 0, int u8 0, int u8 0, int u8 0, int u8 0, int u8 0, int u8 0, int u8 0, int u8 0, int u8 0, int u8 0, int u8 0, int u16 0, int i64 0] 0 (List.take 18 D)) 18 [int i64 1]).length = 19 ∧ 19 ≤ 19 then
 (if 19 ≤ (putCells [AV.bool false, int u8 0, int u8 0, int u8 0, int u8 0, int u8 0, int u8 0, int u8 0, int u8 0, int u8 0, int u8 0, int u8 0, int u8 0, int u8 0, int u8 0, int u8 0, int u8 0, int u16 0, int i64 0] 0 (putCells (putCells [AV.bool false, int u8 0, int u8 0, int u8 0, int u8 0, int u8 0, int u8 0, int u8 0, int u8 0, int u8 0, int u8 0, int u8 0, int u8 0, int u8 0, int u8 0, int u8 0, int u8 0, int u16 0, int i64 0] 0 (List.take 18 D)) 18 [int i64 1])).length then
 (if (2 * (n + 1) + 200) * 32 ≤ 281474976710656 ∧ some 19 = some 19 ∧ n + 1 ≤ 70368744177664 then
 (if 0 + n * 19 ≤ C.length then
 (if 0 = 0 ∧ 0 + n * 19 = C.length ∧ (0 < 1 ∨ 0 = 0) ∧ 19 = 19 ∧ (List.take 19 (putCells [AV.bool false, int u8 0, int u8 0, int u8 0, int u8 0, int u8 0, int u8 0, int u8 0, int u8 0, int u8 0, int u8 0, int u8 0, int u8 0, int u8 0, int u8 0, int u8 0, int u8 0, int u16 0, int i64 0] 0 (putCells (putCells [AV.bool false, int u8 0, int u8 0, int u8 0, int u8 0, int u8 0, int u8 0, int u8 0, int u8 0, int u8 0, int u8 0, int u8 0, int u8 0, int u8 0, int u8 0, int u8 0, int u8 0, int u16 0, int i64 0] 0 (List.take 18 D)) 18 [int i64 1]))).all AV.isCell = true then
 K (AV.tup [AV.bool (intV (some (int i64 f)) == 1), int i64 0]) ((hRtZ1 f n C D q i))
 else none) else none) else none) else none) else none) else none) else none) else none) else none) else none) else none) else none) := by
  kernel_rfl

noncomputable def hRtY0 (f : Int) (n : Nat) (C D : List AV) (q : Prop) (w b : Bool) (i : Int) (H : AHeap) : AHeap := [cells [int i64 f, AV.sl (some (1, 0)) n 0 false] 2 Md.own none, ABlk.cells C 19 Md.own none, ABlk.cells D 18 Md.own none]
theorem nfRtY {R : Type} (f : Int) (n : Nat) (C D : List AV) (q : Prop) (w b : Bool) (i : Int) (H : AHeap) (K : AV → AHeap → Option R) :
 qrun Try.prog tRt 100 4 [(12, .bool false)] [(4, fixC q mRT (vRt w false 0 0) (hRt f n C D) .ret (vRt w b 0 i) H)] 12 [.ptr (some (0, 0)), .agg D, .bool w] (hRt0 f n C) K =
 (if 17 ≤ D.length then
 (if cdec (IsAdr (List.take 17 D)) = true then
 (if (!opq (adrValid (List.take 17 D))) = false then
 (if cdec (q ∧ [AV.ptr (some (0, 0)), AV.bool w, AV.ptr (some (2, 0)), AV.bool false, int i64 0, int i64 0] = [AV.ptr (some (0, 0)), AV.bool w, AV.ptr (some (2, 0)), AV.bool false, int i64 0, int i64 0] ∧ (hRtY0 f n C D q w b i H) = (hRtY0 f n C D q w b i H)) = true then
 K (AV.tup [AV.bool b, int i64 0]) (H)
 else none) else none) else none) else none) := by
  kernel_rfl


end Go.Proofs.Ytpghomcohejejaa.L
