/- OctetJoins' rows. -/
import Derived.Test.YtejbipoibpefnaaApp
import Derived.Test.YtejbipoibpefnaaOctAll
import Derived.Test.YtejbipoibpefnaaBase
import Derived.Test.YtejbipoibpefnaaAwake1
set_option autoImplicit false
set_option maxRecDepth 100000
set_option linter.unusedVariables false
set_option linter.unusedSimpArgs false
namespace Go.Proofs.Ytejbipoibpefnaa.L
open Go Go.Abs
open Go.IntKind
open Go.Abs.AV (int)
open Go.Abs.ABlk (cells)

def farU (l : List Int) : ABlk := .cells (l.map (AV.int .u64)) 1 .far none
def mJ1 : List Bool := [true, false, false, true, true] ++ List.replicate 151 false
def mJ2 : List Bool := [true, false, false, true, false, true, true] ++ List.replicate 149 false
def slU (l : List Int) : AV := .sl (some (0, 0)) l.length 0 false
def vJ1 (l : List Int) (b : AV) (i : Int) : List AV := [slU l, b, .int .i64 i]
def vJ2 (l : List Int) (b : AV) (at_ i : Int) : List AV := [slU l, b, .int .i64 at_, .int .i64 i]
noncomputable abbrev J1 := loopIn (bodyOf Try.prog 7) 0
noncomputable abbrev J2 := loopIn (bodyOf Try.prog 7) 1

noncomputable def tJ : Tbl := [(15, entF eApp8), (17, entF eApp16), (19, entF eApp32), (21, entF eApp64), (9, entF eGet8), (10, entF eGet16), (11, entF eGet32), (12, entF eGet64), (8, entF eAwake)]
theorem tJOk : ∀ f E, tJ.find f = some E → SoundE Try.prog f E := find_cons sApp8 (find_cons sApp16 (find_cons sApp32 (find_cons sApp64 (find_cons sGet8 (find_cons sGet16 (find_cons sGet32 (find_cons sGet64 (find_cons sAwake (find_nil _)))))))))
noncomputable def hJ00 (l : List Int) : AHeap := [cells (List.map (int u64) l) 1 Md.far none]
noncomputable def hJ01 (l : List Int) : AHeap := [cells (List.map (int u64) l) 1 Md.far none, cells [int u8 (((u8i ((u8.wrap (intV (List.map (int u64) l)[0]?)).fdiv 1)).toNat : Nat) : Int)] 1 Md.own none]
theorem nfJ0 (l : List Int) :
 qround Try.prog tJ 100 4 [(24, .bool true), (29, .bool true)] noT J1 mJ1 (vJ1 l (.sl none 0 0 true) 0) [farU l] =
 (if decide (0 < (l.length : Int)) = true then
 (if Int.ofNat 0 ≤ Int.ofNat 0 ∧ 0 < (l.length : Int) then
 (if isIntV u64 (List.map (int u64) l)[0]? = true then
 (if (bOk (hJ00 l) (AV.sl none 0 0 true) && decide (nOf (AV.sl none 0 0 true) ≤ 100000000000 ∧ 0 ≤ u8.wrap (intV (List.map (int u64) l)[0]?) ∧ u8.wrap (intV (List.map (int u64) l)[0]?) < 256)) = true then
 some ((AEx.norm, [AV.sl (some (0, 0)) l.length 0 false, AV.sl (some (1, 0)) (bOf (hJ00 l) (AV.sl none 0 0 true) ++ bigR (u8.wrap (intV (List.map (int u64) l)[0]?)) 1).length 0 false, int i64 1], (hJ01 l)))
 else none) else none) else none) else none) := by
  kernel_rfl

noncomputable def hJ100 (l : List Int) (B : List UInt8) (i : Int) : AHeap := [cells (List.map (int u64) l) 1 Md.far none, cells (bys B) 1 Md.own none]
noncomputable def hJ101 (l : List Int) (B : List UInt8) (i : Int) : AHeap := [cells (List.map (int u64) l) 1 Md.far none, cells (bys B) 1 Md.own none, cells (bys (bOf (hJ100 l B i) (AV.sl (some (1, 0)) B.length 0 false) ++ bigR (u8.wrap (intV (List.map (int u64) l)[0 + i.toNat * 1]?)) 1)) 1 Md.own none]
theorem nfJ10 (l : List Int) (B : List UInt8) (i : Int) :
 qround Try.prog tJ 100 4 [(24, .bool true), (29, .bool true)] noT J1 mJ1 (vJ1 l (slB 1 B) i) [farU l, ownB B] =
 (if decide (i < (l.length : Int)) = true then
 (if (i.tmod 4 == 0) = true then
 (if 0 ≤ i ∧ i < (l.length : Int) then
 (if isIntV u64 (List.map (int u64) l)[0 + i.toNat * 1]? = true then
 (if (bOk (hJ100 l B i) (AV.sl (some (1, 0)) B.length 0 false) && decide (nOf (AV.sl (some (1, 0)) B.length 0 false) ≤ 100000000000 ∧ 0 ≤ u8.wrap (intV (List.map (int u64) l)[0 + i.toNat * 1]?) ∧ u8.wrap (intV (List.map (int u64) l)[0 + i.toNat * 1]?) < 256)) = true then
 some ((AEx.norm, [AV.sl (some (0, 0)) l.length 0 false, AV.sl (some (2, 0)) (bOf (hJ100 l B i) (AV.sl (some (1, 0)) B.length 0 false) ++ bigR (u8.wrap (intV (List.map (int u64) l)[0 + i.toNat * 1]?)) 1).length 0 false, int i64 (i64.wrap (i + 1))], (hJ101 l B i)))
 else none) else none) else none) else none) else none) := by
  kernel_rfl

noncomputable def hJ110 (l : List Int) (B : List UInt8) (i : Int) : AHeap := [cells (List.map (int u64) l) 1 Md.far none, cells (bys B) 1 Md.own none]
noncomputable def hJ111 (l : List Int) (B : List UInt8) (i : Int) : AHeap := [cells (List.map (int u64) l) 1 Md.far none, cells (bys B) 1 Md.own none, cells (bys (bOf (hJ110 l B i) (AV.sl (some (1, 0)) B.length 0 false) ++ bigR (u16.wrap (intV (List.map (int u64) l)[0 + i.toNat * 1]?)) 2)) 1 Md.own none]
theorem nfJ11 (l : List Int) (B : List UInt8) (i : Int) :
 qround Try.prog tJ 100 4 [(24, .bool true), (29, .bool false), (38, .bool true)] noT J1 mJ1 (vJ1 l (slB 1 B) i) [farU l, ownB B] =
 (if decide (i < (l.length : Int)) = true then
 (if (i.tmod 4 == 0) = false then
 (if (i.tmod 4 == 1) = true then
 (if 0 ≤ i ∧ i < (l.length : Int) then
 (if isIntV u64 (List.map (int u64) l)[0 + i.toNat * 1]? = true then
 (if (bOk (hJ110 l B i) (AV.sl (some (1, 0)) B.length 0 false) && decide (nOf (AV.sl (some (1, 0)) B.length 0 false) ≤ 100000000000 ∧ 0 ≤ u16.wrap (intV (List.map (int u64) l)[0 + i.toNat * 1]?) ∧ u16.wrap (intV (List.map (int u64) l)[0 + i.toNat * 1]?) < 65536)) = true then
 some ((AEx.norm, [AV.sl (some (0, 0)) l.length 0 false, AV.sl (some (2, 0)) (bOf (hJ110 l B i) (AV.sl (some (1, 0)) B.length 0 false) ++ bigR (u16.wrap (intV (List.map (int u64) l)[0 + i.toNat * 1]?)) 2).length 0 false, int i64 (i64.wrap (i + 1))], (hJ111 l B i)))
 else none) else none) else none) else none) else none) else none) := by
  kernel_rfl

noncomputable def hJ120 (l : List Int) (B : List UInt8) (i : Int) : AHeap := [cells (List.map (int u64) l) 1 Md.far none, cells (bys B) 1 Md.own none]
noncomputable def hJ121 (l : List Int) (B : List UInt8) (i : Int) : AHeap := [cells (List.map (int u64) l) 1 Md.far none, cells (bys B) 1 Md.own none, cells (bys (bOf (hJ120 l B i) (AV.sl (some (1, 0)) B.length 0 false) ++ bigR (u32.wrap (intV (List.map (int u64) l)[0 + i.toNat * 1]?)) 4)) 1 Md.own none]
theorem nfJ12 (l : List Int) (B : List UInt8) (i : Int) :
 qround Try.prog tJ 100 4 [(24, .bool true), (29, .bool false), (38, .bool false), (47, .bool true)] noT J1 mJ1 (vJ1 l (slB 1 B) i) [farU l, ownB B] =
 (if decide (i < (l.length : Int)) = true then
 (if (i.tmod 4 == 0) = false then
 (if (i.tmod 4 == 1) = false then
 (if (i.tmod 4 == 2) = true then
 (if 0 ≤ i ∧ i < (l.length : Int) then
 (if isIntV u64 (List.map (int u64) l)[0 + i.toNat * 1]? = true then
 (if (bOk (hJ120 l B i) (AV.sl (some (1, 0)) B.length 0 false) && decide (nOf (AV.sl (some (1, 0)) B.length 0 false) ≤ 100000000000 ∧ 0 ≤ u32.wrap (intV (List.map (int u64) l)[0 + i.toNat * 1]?) ∧ u32.wrap (intV (List.map (int u64) l)[0 + i.toNat * 1]?) < 4294967296)) = true then
 some ((AEx.norm, [AV.sl (some (0, 0)) l.length 0 false, AV.sl (some (2, 0)) (bOf (hJ120 l B i) (AV.sl (some (1, 0)) B.length 0 false) ++ bigR (u32.wrap (intV (List.map (int u64) l)[0 + i.toNat * 1]?)) 4).length 0 false, int i64 (i64.wrap (i + 1))], (hJ121 l B i)))
 else none) else none) else none) else none) else none) else none) else none) := by
  kernel_rfl

noncomputable def hJ130 (l : List Int) (B : List UInt8) (i : Int) : AHeap := [cells (List.map (int u64) l) 1 Md.far none, cells (bys B) 1 Md.own none]
noncomputable def hJ131 (l : List Int) (B : List UInt8) (i : Int) : AHeap := [cells (List.map (int u64) l) 1 Md.far none, cells (bys B) 1 Md.own none, cells (bys (bOf (hJ130 l B i) (AV.sl (some (1, 0)) B.length 0 false) ++ bigR (intV (List.map (int u64) l)[0 + i.toNat * 1]?) 8)) 1 Md.own none]
theorem nfJ13 (l : List Int) (B : List UInt8) (i : Int) :
 qround Try.prog tJ 100 4 [(24, .bool true), (29, .bool false), (38, .bool false), (47, .bool false), (56, .bool true)] noT J1 mJ1 (vJ1 l (slB 1 B) i) [farU l, ownB B] =
 (if decide (i < (l.length : Int)) = true then
 (if (i.tmod 4 == 0) = false then
 (if (i.tmod 4 == 1) = false then
 (if (i.tmod 4 == 2) = false then
 (if (i.tmod 4 == 3) = true then
 (if 0 ≤ i ∧ i < (l.length : Int) then
 (if isIntV u64 (List.map (int u64) l)[0 + i.toNat * 1]? = true then
 (if (bOk (hJ130 l B i) (AV.sl (some (1, 0)) B.length 0 false) && decide (nOf (AV.sl (some (1, 0)) B.length 0 false) ≤ 100000000000 ∧ 0 ≤ intV (List.map (int u64) l)[0 + i.toNat * 1]? ∧ intV (List.map (int u64) l)[0 + i.toNat * 1]? < 18446744073709551616)) = true then
 some ((AEx.norm, [AV.sl (some (0, 0)) l.length 0 false, AV.sl (some (2, 0)) (bOf (hJ130 l B i) (AV.sl (some (1, 0)) B.length 0 false) ++ bigR (intV (List.map (int u64) l)[0 + i.toNat * 1]?) 8).length 0 false, int i64 (i64.wrap (i + 1))], (hJ131 l B i)))
 else none) else none) else none) else none) else none) else none) else none) else none) := by
  kernel_rfl

theorem nfJ1s (l : List Int) (b : AV) (h : AHeap) (i : Int) :
 qround Try.prog tJ 100 4 [(24, .bool false)] noT J1 mJ1 (vJ1 l b i) h =
 (if decide (i < (l.length : Int)) = false then
 some ((AEx.exit 0, [AV.sl (some (0, 0)) l.length 0 false, b, int i64 i], h))
 else none) := by
  kernel_rfl

noncomputable def hJ200 (l : List Int) (B : List UInt8) (a i : Int) : AHeap := [cells (List.map (int u64) l) 1 Md.far none, cells (bys B) 1 Md.own none]
theorem nfJ20 (l : List Int) (B : List UInt8) (a i : Int) :
 qround Try.prog tJ 100 4 [(67, .bool true), (72, .bool true), (143, .bool false)] noT J2 mJ2 (vJ2 l (slB 1 B) a i) [farU l, ownB B] =
 (if decide (i < (l.length : Int)) = true then
 (if (i.tmod 4 == 0) = true then
 (if (bOk (hJ200 l B a i) (AV.sl (some (1, 0)) B.length 0 false) && decide ((((nOf (AV.sl (some (1, 0)) B.length 0 false)) : Nat) : Int) < 9223372036854775000)) = true then
 (if 0 ≤ i ∧ i < (l.length : Int) then
 (if isIntV u64 (List.map (int u64) l)[0 + i.toNat * 1]? = true then
 (if (!decide (0 ≤ a ∧ a + 1 ≤ (((bOf (hJ200 l B a i) (AV.sl (some (1, 0)) B.length 0 false)).length : Nat) : Int))) = true then
 none
 else (if (abits u64 (· ^^^ ·) (u64.wrap (if 0 ≤ a ∧ a + 1 ≤ (((bOf (hJ200 l B a i) (AV.sl (some (1, 0)) B.length 0 false)).length : Nat) : Int) then numAt (bOf (hJ200 l B a i) (AV.sl (some (1, 0)) B.length 0 false)) a.toNat 1 else 0)) (abits u64 (· &&& ·) (intV (List.map (int u64) l)[0 + i.toNat * 1]?) 255) != 0) = false then
 (if i.tmod 4 < 0 then
 none
 else some ((AEx.norm, [AV.sl (some (0, 0)) l.length 0 false, AV.sl (some (1, 0)) B.length 0 false, int i64 (i64.wrap (a + i64.wrap (1 * 2 ^ min (i.tmod 4).toNat 64))), int i64 (i64.wrap (i + 1))], (hJ200 l B a i))))
 else none))
 else none) else none) else none) else none) else none) := by
  kernel_rfl

noncomputable def hJ210 (l : List Int) (B : List UInt8) (a i : Int) : AHeap := [cells (List.map (int u64) l) 1 Md.far none, cells (bys B) 1 Md.own none]
theorem nfJ21 (l : List Int) (B : List UInt8) (a i : Int) :
 qround Try.prog tJ 100 4 [(67, .bool true), (72, .bool false), (89, .bool true), (143, .bool false)] noT J2 mJ2 (vJ2 l (slB 1 B) a i) [farU l, ownB B] =
 (if decide (i < (l.length : Int)) = true then
 (if (i.tmod 4 == 0) = false then
 (if (i.tmod 4 == 1) = true then
 (if (bOk (hJ210 l B a i) (AV.sl (some (1, 0)) B.length 0 false) && decide ((((nOf (AV.sl (some (1, 0)) B.length 0 false)) : Nat) : Int) < 9223372036854775000)) = true then
 (if 0 ≤ i ∧ i < (l.length : Int) then
 (if isIntV u64 (List.map (int u64) l)[0 + i.toNat * 1]? = true then
 (if (!decide (0 ≤ a ∧ a + 2 ≤ (((bOf (hJ210 l B a i) (AV.sl (some (1, 0)) B.length 0 false)).length : Nat) : Int))) = true then
 none
 else (if (abits u64 (· ^^^ ·) (u64.wrap (if 0 ≤ a ∧ a + 2 ≤ (((bOf (hJ210 l B a i) (AV.sl (some (1, 0)) B.length 0 false)).length : Nat) : Int) then numAt (bOf (hJ210 l B a i) (AV.sl (some (1, 0)) B.length 0 false)) a.toNat 2 else 0)) (abits u64 (· &&& ·) (intV (List.map (int u64) l)[0 + i.toNat * 1]?) 65535) != 0) = false then
 (if i.tmod 4 < 0 then
 none
 else some ((AEx.norm, [AV.sl (some (0, 0)) l.length 0 false, AV.sl (some (1, 0)) B.length 0 false, int i64 (i64.wrap (a + i64.wrap (1 * 2 ^ min (i.tmod 4).toNat 64))), int i64 (i64.wrap (i + 1))], (hJ210 l B a i))))
 else none))
 else none) else none) else none) else none) else none) else none) := by
  kernel_rfl

noncomputable def hJ220 (l : List Int) (B : List UInt8) (a i : Int) : AHeap := [cells (List.map (int u64) l) 1 Md.far none, cells (bys B) 1 Md.own none]
theorem nfJ22 (l : List Int) (B : List UInt8) (a i : Int) :
 qround Try.prog tJ 100 4 [(67, .bool true), (72, .bool false), (89, .bool false), (106, .bool true), (143, .bool false)] noT J2 mJ2 (vJ2 l (slB 1 B) a i) [farU l, ownB B] =
 (if decide (i < (l.length : Int)) = true then
 (if (i.tmod 4 == 0) = false then
 (if (i.tmod 4 == 1) = false then
 (if (i.tmod 4 == 2) = true then
 (if (bOk (hJ220 l B a i) (AV.sl (some (1, 0)) B.length 0 false) && decide ((((nOf (AV.sl (some (1, 0)) B.length 0 false)) : Nat) : Int) < 9223372036854775000)) = true then
 (if 0 ≤ i ∧ i < (l.length : Int) then
 (if isIntV u64 (List.map (int u64) l)[0 + i.toNat * 1]? = true then
 (if (!decide (0 ≤ a ∧ a + 4 ≤ (((bOf (hJ220 l B a i) (AV.sl (some (1, 0)) B.length 0 false)).length : Nat) : Int))) = true then
 none
 else (if (abits u64 (· ^^^ ·) (u64.wrap (if 0 ≤ a ∧ a + 4 ≤ (((bOf (hJ220 l B a i) (AV.sl (some (1, 0)) B.length 0 false)).length : Nat) : Int) then numAt (bOf (hJ220 l B a i) (AV.sl (some (1, 0)) B.length 0 false)) a.toNat 4 else 0)) (abits u64 (· &&& ·) (intV (List.map (int u64) l)[0 + i.toNat * 1]?) 4294967295) != 0) = false then
 (if i.tmod 4 < 0 then
 none
 else some ((AEx.norm, [AV.sl (some (0, 0)) l.length 0 false, AV.sl (some (1, 0)) B.length 0 false, int i64 (i64.wrap (a + i64.wrap (1 * 2 ^ min (i.tmod 4).toNat 64))), int i64 (i64.wrap (i + 1))], (hJ220 l B a i))))
 else none))
 else none) else none) else none) else none) else none) else none) else none) := by
  kernel_rfl

noncomputable def hJ230 (l : List Int) (B : List UInt8) (a i : Int) : AHeap := [cells (List.map (int u64) l) 1 Md.far none, cells (bys B) 1 Md.own none]
theorem nfJ23 (l : List Int) (B : List UInt8) (a i : Int) :
 qround Try.prog tJ 100 4 [(67, .bool true), (72, .bool false), (89, .bool false), (106, .bool false), (123, .bool true), (143, .bool false)] noT J2 mJ2 (vJ2 l (slB 1 B) a i) [farU l, ownB B] =
 (if decide (i < (l.length : Int)) = true then
 (if (i.tmod 4 == 0) = false then
 (if (i.tmod 4 == 1) = false then
 (if (i.tmod 4 == 2) = false then
 (if (i.tmod 4 == 3) = true then
 (if (bOk (hJ230 l B a i) (AV.sl (some (1, 0)) B.length 0 false) && decide ((((nOf (AV.sl (some (1, 0)) B.length 0 false)) : Nat) : Int) < 9223372036854775000)) = true then
 (if 0 ≤ i ∧ i < (l.length : Int) then
 (if isIntV u64 (List.map (int u64) l)[0 + i.toNat * 1]? = true then
 (if (!decide (0 ≤ a ∧ a + 8 ≤ (((bOf (hJ230 l B a i) (AV.sl (some (1, 0)) B.length 0 false)).length : Nat) : Int))) = true then
 none
 else (if (abits u64 (· ^^^ ·) (if 0 ≤ a ∧ a + 8 ≤ (((bOf (hJ230 l B a i) (AV.sl (some (1, 0)) B.length 0 false)).length : Nat) : Int) then numAt (bOf (hJ230 l B a i) (AV.sl (some (1, 0)) B.length 0 false)) a.toNat 8 else 0) (intV (List.map (int u64) l)[0 + i.toNat * 1]?) != 0) = false then
 (if i.tmod 4 < 0 then
 none
 else some ((AEx.norm, [AV.sl (some (0, 0)) l.length 0 false, AV.sl (some (1, 0)) B.length 0 false, int i64 (i64.wrap (a + i64.wrap (1 * 2 ^ min (i.tmod 4).toNat 64))), int i64 (i64.wrap (i + 1))], (hJ230 l B a i))))
 else none))
 else none) else none) else none) else none) else none) else none) else none) else none) := by
  kernel_rfl

theorem nfJ2s (l : List Int) (b : AV) (h : AHeap) (a i : Int) :
 qround Try.prog tJ 100 4 [(67, .bool false)] noT J2 mJ2 (vJ2 l b a i) h =
 (if decide (i < (l.length : Int)) = false then
 some ((AEx.exit 3, [AV.sl (some (0, 0)) l.length 0 false, b, int i64 a, int i64 i], h))
 else none) := by
  kernel_rfl

noncomputable def hJ0 (l : List Int) (B : List UInt8) (a : Int) (q : Prop) : AHeap := [cells (List.map (int u64) l) 1 Md.far none]
noncomputable def hJ1 (l : List Int) (B : List UInt8) (a : Int) (q : Prop) : AHeap := [cells (List.map (int u64) l) 1 Md.far none, cells (bys B) 1 Md.own none]
theorem nfJ {R : Type} (l : List Int) (B : List UInt8) (a : Int) (q : Prop) (K : AV → Option R) :
 qrun Try.prog tJ 100 4 [] [(5, fixC q mJ1 (vJ1 l (.sl none 0 0 true) 0) [farU l] (.exit 0) (vJ1 l (slB 1 B) l.length) [farU l, ownB B]), (18, fixC q mJ2 (vJ2 l (slB 1 B) 0 0) [farU l, ownB B] (.exit 3) (vJ2 l (slB 1 B) a l.length) [farU l, ownB B])] 7 [slU l] [farU l] (fun v _ => K v) =
 (if decide ((l.length : Int) > 50) = true then
 K (AV.bool true)
 else (if cdec (q ∧ [AV.sl (some (0, 0)) l.length 0 false, AV.sl none 0 0 true, int i64 0] = [AV.sl (some (0, 0)) l.length 0 false, AV.sl none 0 0 true, int i64 0] ∧ (hJ0 l B a q) = (hJ0 l B a q)) = true then
 (if cdec (q ∧ [AV.sl (some (0, 0)) l.length 0 false, AV.sl (some (1, 0)) B.length 0 false, int i64 0, int i64 0] = [AV.sl (some (0, 0)) l.length 0 false, AV.sl (some (1, 0)) B.length 0 false, int i64 0, int i64 0] ∧ (hJ1 l B a q) = (hJ1 l B a q)) = true then
 (if (a == (B.length : Int)) = true then
 K (AV.bool true)
 else K (AV.bool false))
 else none) else none)) := by
  kernel_rfl

theorem nfJn {R : Type} (K : AV → Option R) :
 qrun Try.prog tJ 100 4 [] [] 7 [slU []] [farU []] (fun v _ => K v) =
 K (AV.bool true) := by
  kernel_rfl


end Go.Proofs.Ytejbipoibpefnaa.L
