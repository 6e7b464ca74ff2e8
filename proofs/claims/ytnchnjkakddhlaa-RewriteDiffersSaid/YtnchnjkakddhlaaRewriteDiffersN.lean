/- RewriteDiffers' rows. -/
import Derived.Test.YtnchnjkakddhlaaDifK
import Derived.Test.YtnchnjkakddhlaaIntsK
import Derived.Test.YtnchnjkakddhlaaAddrB
import Derived.Test.YtnchnjkakddhlaaAwake9
set_option autoImplicit false
set_option maxRecDepth 100000
set_option linter.unusedVariables false
namespace Go.Proofs.Ytnchnjkakddhlaa.L
open Go Go.Abs
open Go.IntKind
open Go.Abs.AV (int)
open Go.Abs.ABlk (cells)

def mRD1 : List Bool := List.replicate 3 true ++ List.replicate 4 false ++ List.replicate 3 true ++ List.replicate 103 false
def mRD2 : List Bool := List.replicate 1 true ++ List.replicate 6 false ++ List.replicate 2 true ++ List.replicate 2 false ++ List.replicate 3 true ++ List.replicate 99 false
noncomputable abbrev RL1 := loopIn (bodyOf Try.prog 6) 0
noncomputable abbrev RL2 := loopIn (bodyOf Try.prog 6) 1
def slI (k n : Nat) : AV := .sl (some (k, 0)) n 0 false
def intsB (md : Md) (l : List Int) : ABlk := .cells (l.map (AV.int .i64)) 1 md none
def vRD1 (a : List UInt8) (z : List Int) (c i : Int) : List AV := [slB 0 a, slI 1 z.length, .int .i64 c, slI 3 a.length, slI 4 a.length, .int .i64 i]
def hRD1 (a B : List UInt8) (z : List Int) (T : List Bool) : AHeap := [farB a, intsB .far z, .cells [] 1 .ro none, ownB B, .cells (T.map AV.bool) 1 .own none]
def hRD0 (a : List UInt8) (z : List Int) : AHeap := [farB a, intsB .far z, .cells [] 1 .ro none, .cells (List.take (a.length * 1) (bys a)) 1 .own (some 2), .cells (zrep ((a.length : Int)).toNat [AV.bool false]) 1 .own none]
def vRD2 (a : List UInt8) (c : Int) (n : Nat) (i : Int) : List AV := [slB 0 a, slI 3 a.length, slI 4 a.length, .int .i64 c, slI 5 n, .int .i64 i]
def vRD20 (a : List UInt8) (c : Int) (i : Int) : List AV := [slB 0 a, slI 3 a.length, slI 4 a.length, .int .i64 c, .sl none 0 0 true, .int .i64 i]
def hRD2 (a B : List UInt8) (z : List Int) (T : List Bool) (w : List Int) : AHeap := hRD1 a B z T ++ [intsB .own w]
noncomputable def tRD (w : List Int) : Tbl := [(11, entF (eRel DifR [(6, slI 6 w.length, [intsB .own w]), (7, slI 7 w.length, [intsB .own w]), (8, slI 8 0, [intsB .own []])])), (10, entF (eRel IntsR [(7, .bool true, []), (8, .bool true, [])])), (17, entF eRound), (7, entF eAwake)]
theorem tRDOk (w : List Int) : ∀ f E, (tRD w).find f = some E → SoundE Try.prog f E := find_cons (sDif _) (find_cons (sInts _) (find_cons sRound (find_cons sAwake (find_nil _))))
noncomputable def tRDn : Tbl := [(11, entF (eRel DifR [(2, slI 2 0, [intsB .own []])])), (7, entF eAwake)]
theorem tRDnOk : ∀ f E, tRDn.find f = some E → SoundE Try.prog f E := find_cons (sDif _) (find_cons sAwake (find_nil _))

noncomputable def hRDx0 (a B : List UInt8) (z : List Int) (T : List Bool) (c i : Int) : AHeap := [cells (bys a) 1 Md.far none, cells (List.map (int i64) z) 1 Md.far none, cells [] 1 Md.ro none, cells (putCells (bys B) (0 + (intV (List.map (int i64) z)[0 + i.toNat * 1]? % (a.length : Int)).toNat * 1) [int u8 (abits u8 (· ^^^ ·) 255 (intV (bys a)[0 + (intV (List.map (int i64) z)[0 + i.toNat * 1]? % (a.length : Int)).toNat * 1]?))]) 1 Md.own none, cells (putCells (List.map AV.bool T) (0 + (intV (List.map (int i64) z)[0 + i.toNat * 1]? % (a.length : Int)).toNat * 1) [AV.bool true]) 1 Md.own none]
theorem nfRDx (a B : List UInt8) (z : List Int) (T : List Bool) (c i : Int) :
 qround Try.prog (tRD []) 100 4 [(42, .bool true)] noT RL1 mRD1 (vRD1 a z c i) (hRD1 a B z T) =
 (if decide (i < (z.length : Int)) = true then
 (if 0 ≤ i ∧ i < (z.length : Int) then
 (if isIntV i64 (List.map (int i64) z)[0 + i.toNat * 1]? = true then
 (if decide (0 < (a.length : Int) ∧ (a.length : Int) < 4611686018427387904) = true then
 (if 0 ≤ intV (List.map (int i64) z)[0 + i.toNat * 1]? % (a.length : Int) ∧ intV (List.map (int i64) z)[0 + i.toNat * 1]? % (a.length : Int) < (a.length : Int) then
 (if isIntV u8 (bys a)[0 + (intV (List.map (int i64) z)[0 + i.toNat * 1]? % (a.length : Int)).toNat * 1]? = true then
 (if 0 ≤ intV (List.map (int i64) z)[0 + i.toNat * 1]? % (a.length : Int) ∧ intV (List.map (int i64) z)[0 + i.toNat * 1]? % (a.length : Int) < (a.length : Int) then
 (if 0 + (intV (List.map (int i64) z)[0 + i.toNat * 1]? % (a.length : Int)).toNat * 1 + [int u8 (abits u8 (· ^^^ ·) 255 (intV (bys a)[0 + (intV (List.map (int i64) z)[0 + i.toNat * 1]? % (a.length : Int)).toNat * 1]?))].length ≤ (bys B).length ∧ [int u8 (abits u8 (· ^^^ ·) 255 (intV (bys a)[0 + (intV (List.map (int i64) z)[0 + i.toNat * 1]? % (a.length : Int)).toNat * 1]?))].all AV.isCell = true then
 (if 0 ≤ intV (List.map (int i64) z)[0 + i.toNat * 1]? % (a.length : Int) ∧ intV (List.map (int i64) z)[0 + i.toNat * 1]? % (a.length : Int) < (a.length : Int) then
 (if 0 + (intV (List.map (int i64) z)[0 + i.toNat * 1]? % (a.length : Int)).toNat * 1 + [AV.bool true].length ≤ (List.map AV.bool T).length ∧ [AV.bool true].all AV.isCell = true then
 some ((AEx.norm, [AV.sl (some (0, 0)) a.length 0 false, AV.sl (some (1, 0)) z.length 0 false, int i64 c, AV.sl (some (3, 0)) a.length 0 false, AV.sl (some (4, 0)) a.length 0 false, int i64 (i64.wrap (i + 1))], (hRDx0 a B z T c i)))
 else none) else none) else none) else none) else none) else none) else none) else none) else none) else none) := by
  kernel_rfl

noncomputable def hRD1s0 (a B : List UInt8) (z : List Int) (T : List Bool) (c i : Int) : AHeap := [cells (bys a) 1 Md.far none, cells (List.map (int i64) z) 1 Md.far none, cells [] 1 Md.ro none, cells (bys B) 1 Md.own none, cells (List.map AV.bool T) 1 Md.own none]
theorem nfRD1s (a B : List UInt8) (z : List Int) (T : List Bool) (c i : Int) :
 qround Try.prog (tRD []) 100 4 [(42, .bool false)] noT RL1 mRD1 (vRD1 a z c i) (hRD1 a B z T) =
 (if decide (i < (z.length : Int)) = false then
 some ((AEx.exit 0, [AV.sl (some (0, 0)) a.length 0 false, AV.sl (some (1, 0)) z.length 0 false, int i64 c, AV.sl (some (3, 0)) a.length 0 false, AV.sl (some (4, 0)) a.length 0 false, int i64 i], (hRD1s0 a B z T c i)))
 else none) := by
  kernel_rfl

noncomputable def hRD200 (a B : List UInt8) (z : List Int) (T : List Bool) (w : List Int) (n : Nat) (c i : Int) : AHeap := [cells (bys a) 1 Md.far none, cells (List.map (int i64) z) 1 Md.far none, cells [] 1 Md.ro none, cells (bys B) 1 Md.own none, cells (List.map AV.bool T) 1 Md.own none, cells (List.map (int i64) w) 1 Md.ro none, cells [int i64 i] 1 Md.own none, cells (List.take (n * 1) (List.map (int i64) w) ++ [int i64 i]) 1 Md.own (some 5)]
theorem nfRD20 (a B : List UInt8) (z : List Int) (T : List Bool) (w : List Int) (n : Nat) (c i : Int) :
 qround Try.prog [] 100 4 [(71, .bool true), (78, .bool true)] noT RL2 mRD2 (vRD2 a c n i) (hRD2 a B z T w) =
 (if decide (i < (a.length : Int)) = true then
 (if 0 ≤ i ∧ i < (a.length : Int) then
 (if isBoolV (List.map AV.bool T)[0 + i.toNat * 1]? = true then
 (if boolV (List.map AV.bool T)[0 + i.toNat * 1]? = true then
 (if (2 * (n + 1) + 200) * 8 ≤ 281474976710656 ∧ some 1 = some 1 ∧ n + 1 ≤ 70368744177664 then
 (if 0 + n * 1 ≤ (List.map (int i64) w).length then
 (if 0 = 0 ∧ 0 + n * 1 = (List.map (int i64) w).length ∧ (0 < 1 ∨ 0 = 0) ∧ 1 = 1 ∧ [int i64 i].all AV.isCell = true then
 some ((AEx.norm, [AV.sl (some (0, 0)) a.length 0 false, AV.sl (some (3, 0)) a.length 0 false, AV.sl (some (4, 0)) a.length 0 false, int i64 c, AV.sl (some (7, 0)) (n + 1) 0 false, int i64 (i64.wrap (i + 1))], (hRD200 a B z T w n c i)))
 else none) else none) else none) else none) else none) else none) else none) := by
  kernel_rfl

noncomputable def hRD210 (a B : List UInt8) (z : List Int) (T : List Bool) (w : List Int) (n : Nat) (c i : Int) : AHeap := [cells (bys a) 1 Md.far none, cells (List.map (int i64) z) 1 Md.far none, cells [] 1 Md.ro none, cells (bys B) 1 Md.own none, cells (List.map AV.bool T) 1 Md.own none, cells (List.map (int i64) w) 1 Md.ro none, cells [int i64 i] 1 Md.own none, cells (List.take (n * 1) (List.map (int i64) w) ++ [int i64 i]) 1 Md.own (some 5)]
theorem nfRD21 (a B : List UInt8) (z : List Int) (T : List Bool) (w : List Int) (n : Nat) (c i : Int) :
 qround Try.prog [] 100 4 [(71, .bool true), (78, .bool false), (81, .bool true)] noT RL2 mRD2 (vRD2 a c n i) (hRD2 a B z T w) =
 (if decide (i < (a.length : Int)) = true then
 (if 0 ≤ i ∧ i < (a.length : Int) then
 (if isBoolV (List.map AV.bool T)[0 + i.toNat * 1]? = true then
 (if boolV (List.map AV.bool T)[0 + i.toNat * 1]? = false then
 (if decide (i ≥ c) = true then
 (if (2 * (n + 1) + 200) * 8 ≤ 281474976710656 ∧ some 1 = some 1 ∧ n + 1 ≤ 70368744177664 then
 (if 0 + n * 1 ≤ (List.map (int i64) w).length then
 (if 0 = 0 ∧ 0 + n * 1 = (List.map (int i64) w).length ∧ (0 < 1 ∨ 0 = 0) ∧ 1 = 1 ∧ [int i64 i].all AV.isCell = true then
 some ((AEx.norm, [AV.sl (some (0, 0)) a.length 0 false, AV.sl (some (3, 0)) a.length 0 false, AV.sl (some (4, 0)) a.length 0 false, int i64 c, AV.sl (some (7, 0)) (n + 1) 0 false, int i64 (i64.wrap (i + 1))], (hRD210 a B z T w n c i)))
 else none) else none) else none) else none) else none) else none) else none) else none) := by
  kernel_rfl

noncomputable def hRD220 (a B : List UInt8) (z : List Int) (T : List Bool) (w : List Int) (n : Nat) (c i : Int) : AHeap := [cells (bys a) 1 Md.far none, cells (List.map (int i64) z) 1 Md.far none, cells [] 1 Md.ro none, cells (bys B) 1 Md.own none, cells (List.map AV.bool T) 1 Md.own none, cells (List.map (int i64) w) 1 Md.own none]
theorem nfRD22 (a B : List UInt8) (z : List Int) (T : List Bool) (w : List Int) (n : Nat) (c i : Int) :
 qround Try.prog [] 100 4 [(71, .bool true), (78, .bool false), (81, .bool false)] noT RL2 mRD2 (vRD2 a c n i) (hRD2 a B z T w) =
 (if decide (i < (a.length : Int)) = true then
 (if 0 ≤ i ∧ i < (a.length : Int) then
 (if isBoolV (List.map AV.bool T)[0 + i.toNat * 1]? = true then
 (if boolV (List.map AV.bool T)[0 + i.toNat * 1]? = false then
 (if decide (i ≥ c) = false then
 some ((AEx.norm, [AV.sl (some (0, 0)) a.length 0 false, AV.sl (some (3, 0)) a.length 0 false, AV.sl (some (4, 0)) a.length 0 false, int i64 c, AV.sl (some (5, 0)) n 0 false, int i64 (i64.wrap (i + 1))], (hRD220 a B z T w n c i)))
 else none) else none) else none) else none) else none) := by
  kernel_rfl

noncomputable def hRD2s0 (a B : List UInt8) (z : List Int) (T : List Bool) (w : List Int) (n : Nat) (c i : Int) : AHeap := [cells (bys a) 1 Md.far none, cells (List.map (int i64) z) 1 Md.far none, cells [] 1 Md.ro none, cells (bys B) 1 Md.own none, cells (List.map AV.bool T) 1 Md.own none, cells (List.map (int i64) w) 1 Md.own none]
theorem nfRD2s (a B : List UInt8) (z : List Int) (T : List Bool) (w : List Int) (n : Nat) (c i : Int) :
 qround Try.prog [] 100 4 [(71, .bool false)] noT RL2 mRD2 (vRD2 a c n i) (hRD2 a B z T w) =
 (if decide (i < (a.length : Int)) = false then
 some ((AEx.exit 2, [AV.sl (some (0, 0)) a.length 0 false, AV.sl (some (3, 0)) a.length 0 false, AV.sl (some (4, 0)) a.length 0 false, int i64 c, AV.sl (some (5, 0)) n 0 false, int i64 i], (hRD2s0 a B z T w n c i)))
 else none) := by
  kernel_rfl

theorem nfRDl {R : Type} (a : List UInt8) (z : List Int) (c : Int) (K : AV → Option R) :
 qrun Try.prog tRDn 100 4 [(21, .bool true)] [] 6 [slB 0 a, slI 1 z.length, .int .i64 c] [farB a, intsB .far z] (fun v _ => K v) =
 (if decide ((a.length : Int) > 300) = true then
 K (AV.bool true)
 else (if decide ((z.length : Int) > 20) = true then
 K (AV.bool true)
 else none)) := by
  kernel_rfl

noncomputable def hRDz0 (z : List Int) (c : Int) : AHeap := [cells [] 1 Md.far none, cells (List.map (int i64) z) 1 Md.far none]
noncomputable def hRDz1 (z : List Int) (c : Int) : AHeap := [cells [] 1 Md.own none]
theorem nfRDz {R : Type} (z : List Int) (c : Int) (K : AV → Option R) :
 qrun Try.prog tRDn 100 4 [(21, .bool false)] [] 6 [slB 0 [], slI 1 z.length, .int .i64 c] [farB [], intsB .far z] (fun v _ => K v) =
 (if decide ((z.length : Int) > 20) = false then
 (if cdec (DifR [AV.sl (some (0, 0)) 0 0 false, AV.sl none 0 0 true] (hRDz0 z c) (AV.sl (some (2, 0)) 0 0 false) (hRDz1 z c)) = true then
 K (AV.bool true)
 else none) else none) := by
  kernel_rfl

noncomputable def hRDm0 (a B : List UInt8) (z w : List Int) (T : List Bool) (c c' : Int) (q : Prop) : AHeap := [cells (bys a) 1 Md.far none, cells (List.map (int i64) z) 1 Md.far none, cells [] 1 Md.ro none, cells (List.take (a.length * 1) (bys a)) 1 Md.own (some 2), cells (zrep ((a.length : Int)).toNat [AV.bool false]) 1 Md.own none]
noncomputable def hRDm1 (a B : List UInt8) (z w : List Int) (T : List Bool) (c c' : Int) (q : Prop) : AHeap := [cells (bys a) 1 Md.far none, cells (List.map (int i64) z) 1 Md.far none, cells [] 1 Md.ro none, cells (bys B) 1 Md.own none, cells (List.map AV.bool T) 1 Md.own none]
noncomputable def hRDm2 (a B : List UInt8) (z w : List Int) (T : List Bool) (c c' : Int) (q : Prop) : AHeap := [cells (bys a) 1 Md.far none, cells (List.map (int i64) z) 1 Md.far none, cells [] 1 Md.ro none, cells (bys B) 1 Md.own none, cells (List.map AV.bool T) 1 Md.own none, cells (List.map (int i64) w) 1 Md.own none]
noncomputable def hRDm3 (a B : List UInt8) (z w : List Int) (T : List Bool) (c c' : Int) (q : Prop) : AHeap := [cells (List.map (int i64) w) 1 Md.own none]
noncomputable def hRDm4 (a B : List UInt8) (z w : List Int) (T : List Bool) (c c' : Int) (q : Prop) : AHeap := [cells (bys a) 1 Md.far none, cells (List.map (int i64) z) 1 Md.far none, cells [] 1 Md.ro none, cells (bys B) 1 Md.own none, cells (List.map AV.bool T) 1 Md.own none, cells (List.map (int i64) w) 1 Md.own none, cells (List.map (int i64) w) 1 Md.own none]
noncomputable def hRDm5 (a B : List UInt8) (z w : List Int) (T : List Bool) (c c' : Int) (q : Prop) : AHeap := []
noncomputable def hRDm6 (a B : List UInt8) (z w : List Int) (T : List Bool) (c c' : Int) (q : Prop) : AHeap := [cells (bys a) 1 Md.far none, cells (List.map (int i64) z) 1 Md.far none, cells [] 1 Md.ro none, cells (bys B) 1 Md.own none, cells (List.map AV.bool T) 1 Md.own none, cells (List.map (int i64) w) 1 Md.own none, cells (List.map (int i64) w) 1 Md.own none, cells (List.map (int i64) w) 1 Md.own none]
noncomputable def hRDm7 (a B : List UInt8) (z w : List Int) (T : List Bool) (c c' : Int) (q : Prop) : AHeap := [cells [] 1 Md.own none]
theorem nfRDm {R : Type} (a B : List UInt8) (z w : List Int) (T : List Bool) (c c' : Int) (q : Prop) (K : AV → Option R) :
 qrun Try.prog (tRD w) 100 4 [(21, .bool false), (25, .bool false)] [(8, fixC q mRD1 (vRD1 a z c 0) (hRD0 a z) (.exit 0) (vRD1 a z c z.length) (hRD1 a B z T)), (16, fixC q mRD2 (vRD20 a c' 0) (hRD1 a B z T) (.exit 2) (vRD2 a c' w.length a.length) (hRD2 a B z T w))] 6 [slB 0 a, slI 1 z.length, .int .i64 c] [farB a, intsB .far z] (fun v _ => K v) =
 (if decide ((a.length : Int) > 300) = true then
 none
 else (if decide ((z.length : Int) > 20) = false then
 (if ((a.length : Int) == 0) = false then
 (if 0 + a.length * 1 ≤ (bys a).length then
 (if (2 * (0 + a.length) + 200) * 1 ≤ 281474976710656 ∧ some 1 = some 1 ∧ 0 + a.length ≤ 70368744177664 then
 (if 0 = 0 ∧ 0 = 0 ∧ (0 < a.length ∨ 0 = 0) ∧ 1 = 1 ∧ (List.take (a.length * 1) (bys a)).all AV.isCell = true then
 (if 1 = 1 ∧ 0 < 1 ∧ 0 ≤ (a.length : Int) ∧ (a.length : Int) ≤ (a.length : Int) ∧ (a.length : Int) ≤ 70368744177664 ∧ 1 * (a.length : Int) ≤ 281474976710656 then
 (if cdec
 (q ∧
 [AV.sl (some (0, 0)) a.length 0 false, AV.sl (some (1, 0)) z.length 0 false, int i64 c, AV.sl (some (3, 0)) (0 + a.length) 0 false,
 AV.sl (some (4, 0)) ((a.length : Int)).toNat
 (match true with
 | true => 0
 | false => ((a.length : Int)).toNat)
 false,
 int i64 0] =
 [AV.sl (some (0, 0)) a.length 0 false, AV.sl (some (1, 0)) z.length 0 false, int i64 c, AV.sl (some (3, 0)) a.length 0 false, AV.sl (some (4, 0)) a.length 0 false, int i64 0] ∧
 (hRDm0 a B z w T c c' q) = (hRDm0 a B z w T c c' q)) =
 true then
 (if decide (0 < i64.wrap ((a.length : Int) + 1) ∧ i64.wrap ((a.length : Int) + 1) < 4611686018427387904) = true then
 (if cdec (q ∧ [AV.sl (some (0, 0)) a.length 0 false, AV.sl (some (3, 0)) a.length 0 false, AV.sl (some (4, 0)) a.length 0 false, int i64 (c % i64.wrap ((a.length : Int) + 1)), AV.sl none 0 0 true, int i64 0] = [AV.sl (some (0, 0)) a.length 0 false, AV.sl (some (3, 0)) a.length 0 false, AV.sl (some (4, 0)) a.length 0 false, int i64 c', AV.sl none 0 0 true, int i64 0] ∧ (hRDm1 a B z w T c c' q) = (hRDm1 a B z w T c c' q)) = true then
 (if 0 ≤ c' ∧ c' ≤ (((capOf a.length 0 false) : Nat) : Int) then
 (if cdec (DifR [AV.sl (some (0, 0)) a.length 0 false, AV.sl (some (3, 0)) (c'.toNat - 0) (roomOf a.length 0 0 (some c').isNone c'.toNat false) false] (hRDm2 a B z w T c c' q) (AV.sl (some (6, 0)) w.length 0 false) (hRDm3 a B z w T c c' q)) = true then
 (if cdec (IntsR [AV.sl (some (6, 0)) w.length 0 false, AV.sl (some (5, 0)) w.length 0 false] (hRDm4 a B z w T c c' q) (AV.bool true) (hRDm5 a B z w T c c' q)) = true then
 (if 0 ≤ c' ∧ c' ≤ (((capOf a.length 0 false) : Nat) : Int) then
 (if cdec (DifR [AV.sl (some (3, 0)) (c'.toNat - 0) (roomOf a.length 0 0 (some c').isNone c'.toNat false) false, AV.sl (some (0, 0)) a.length 0 false] (hRDm4 a B z w T c c' q) (AV.sl (some (7, 0)) w.length 0 false) (hRDm3 a B z w T c c' q)) = true then
 (if cdec (IntsR [AV.sl (some (7, 0)) w.length 0 false, AV.sl (some (5, 0)) w.length 0 false] (hRDm6 a B z w T c c' q) (AV.bool true) (hRDm5 a B z w T c c' q)) = true then
 (if cdec (DifR [AV.sl (some (0, 0)) a.length 0 false, AV.sl (some (0, 0)) a.length 0 false] (hRDm6 a B z w T c c' q) (AV.sl (some (8, 0)) 0 0 false) (hRDm7 a B z w T c c' q)) = true then
 K (AV.bool true)
 else none) else none) else none) else none) else none) else none) else none) else none) else none) else none) else none) else none) else none) else none) else none) else none)) := by
  kernel_rfl


end Go.Proofs.Ytnchnjkakddhlaa.L
