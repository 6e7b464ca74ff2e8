/- RewriteTells: its rows. -/
import Derived.Test.YtnchnjkakddhlaaRtoK
import Derived.Test.YtnchnjkakddhlaaDifK
import Derived.Test.YtnchnjkakddhlaaIntsK
import Derived.Test.YtnchnjkakddhlaaAwake9
set_option autoImplicit false
set_option maxRecDepth 100000
set_option linter.unusedVariables false
set_option linter.unusedSimpArgs false
namespace Go.Proofs.Ytnchnjkakddhlaa.L
open Go Go.Abs
open Go.IntKind (u8 u16 u32 u64 i64)
open Go.Abs.AV (int)
open Go.Abs.ABlk (cells)

noncomputable abbrev RTL1 := loopIn (bodyOf Try.prog 3) 0
def mRT : List Bool := List.replicate 1 true ++ List.replicate 1 false ++ List.replicate 1 true ++ List.replicate 4 false ++ List.replicate 6 true ++ List.replicate 75 false
def vRT (a c O : List UInt8) (k : Bool) (n : Nat) (i : Int) : List AV := [slB 0 a, slB 1 c, slB 3 O, .bool k, slB 4 O, .bool k, .sl (some (5, 0)) n 0 false, .int .i64 i]
def vRTz (a c O : List UInt8) (k : Bool) (i : Int) : List AV := [slB 0 a, slB 1 c, slB 3 O, .bool k, slB 4 O, .bool k, .sl none 0 0 true, .int .i64 i]
def hRT (a c O : List UInt8) (B2 : ABlk) (l : List Int) : AHeap := [farB a, farB c, B2, ownB O, ownB O, .cells (l.map (AV.int .i64)) 1 .own none]
def hRTz (a c O : List UInt8) (B2 : ABlk) : AHeap := [farB a, farB c, B2, ownB O, ownB O]
noncomputable def tRT (O : List UInt8) (k : Bool) (l : List Int) (n : Nat) : Tbl := [(8, entF (eRel TgR [(3, .tup [slB 3 O, .bool k], [ownB O])])), (9, entF (eRel RtR [(4, .tup [slB 4 O, .bool k], [ownB O])])), (11, entF (eRel DifR [(6, .sl (some (6, 0)) n 0 false, [.cells (l.map (AV.int .i64)) 1 .own none])])), (10, entF (eRel IntsR [(7, .bool true, [])])), (7, entF eAwake)]
theorem tRTOk (O : List UInt8) (k : Bool) (l : List Int) (n : Nat) : ∀ f E, (tRT O k l n).find f = some E → SoundE Try.prog f E := find_cons (sTg _) (find_cons (sRt _) (find_cons (sDif _) (find_cons (sInts _) (find_cons sAwake (find_nil _)))))

noncomputable def hRT00 (a c O : List UInt8) (B2 : ABlk) (k : Bool) (l : List Int) (n : Nat) (i : Int) : AHeap := [cells (bys a) 1 Md.far none, cells (bys c) 1 Md.far none, B2, cells (bys O) 1 Md.own none, cells (bys O) 1 Md.own none, cells (List.map (int i64) l) 1 Md.ro none, cells [int i64 i] 1 Md.own none, cells (List.take (n * 1) (List.map (int i64) l) ++ [int i64 i]) 1 Md.own (some 5)]
theorem nfRT0 (a c O : List UInt8) (B2 : ABlk) (k : Bool) (l : List Int) (n : Nat) (i : Int) :
 qround Try.prog [] 100 4 [(40, .bool true), (46, .bool true)] noT RTL1 mRT (vRT a c O k n i) (hRT a c O B2 l) =
 (if decide (i < if true = true then if (c.length : Int) > (a.length : Int) then (c.length : Int) else (a.length : Int) else if (c.length : Int) < (a.length : Int) then (c.length : Int) else (a.length : Int)) = true then
 (if decide (i ≥ (a.length : Int)) = true then
 (if (2 * (n + 1) + 200) * 8 ≤ 281474976710656 ∧ some 1 = some 1 ∧ n + 1 ≤ 70368744177664 then
 (if 0 + n * 1 ≤ (List.map (int i64) l).length then
 (if 0 = 0 ∧ 0 + n * 1 = (List.map (int i64) l).length ∧ (0 < 1 ∨ 0 = 0) ∧ 1 = 1 ∧ [int i64 i].all AV.isCell = true then
 some ((AEx.norm, [AV.sl (some (0, 0)) a.length 0 false, AV.sl (some (1, 0)) c.length 0 false, AV.sl (some (3, 0)) O.length 0 false, AV.bool k, AV.sl (some (4, 0)) O.length 0 false, AV.bool k, AV.sl (some (7, 0)) (n + 1) 0 false, int i64 (i64.wrap (i + 1))], (hRT00 a c O B2 k l n i)))
 else none) else none) else none) else none) else none) := by
  kernel_rfl

noncomputable def hRT10 (a c O : List UInt8) (B2 : ABlk) (k : Bool) (l : List Int) (n : Nat) (i : Int) : AHeap := (hRT00 a c O B2 k l n i)
theorem nfRT1 (a c O : List UInt8) (B2 : ABlk) (k : Bool) (l : List Int) (n : Nat) (i : Int) :
 qround Try.prog [] 100 4 [(40, .bool true), (46, .bool false), (51, .bool true)] noT RTL1 mRT (vRT a c O k n i) (hRT a c O B2 l) =
 (if decide (i < if true = true then if (c.length : Int) > (a.length : Int) then (c.length : Int) else (a.length : Int) else if (c.length : Int) < (a.length : Int) then (c.length : Int) else (a.length : Int)) = true then
 (if decide (i ≥ (a.length : Int)) = false then
 (if decide (i ≥ (c.length : Int)) = true then
 (if (2 * (n + 1) + 200) * 8 ≤ 281474976710656 ∧ some 1 = some 1 ∧ n + 1 ≤ 70368744177664 then
 (if 0 + n * 1 ≤ (List.map (int i64) l).length then
 (if 0 = 0 ∧ 0 + n * 1 = (List.map (int i64) l).length ∧ (0 < 1 ∨ 0 = 0) ∧ 1 = 1 ∧ [int i64 i].all AV.isCell = true then
 some ((AEx.norm, [AV.sl (some (0, 0)) a.length 0 false, AV.sl (some (1, 0)) c.length 0 false, AV.sl (some (3, 0)) O.length 0 false, AV.bool k, AV.sl (some (4, 0)) O.length 0 false, AV.bool k, AV.sl (some (7, 0)) (n + 1) 0 false, int i64 (i64.wrap (i + 1))], (hRT10 a c O B2 k l n i)))
 else none) else none) else none) else none) else none) else none) := by
  kernel_rfl

noncomputable def hRT20 (a c O : List UInt8) (B2 : ABlk) (k : Bool) (l : List Int) (n : Nat) (i : Int) : AHeap := (hRT00 a c O B2 k l n i)
theorem nfRT2 (a c O : List UInt8) (B2 : ABlk) (k : Bool) (l : List Int) (n : Nat) (i : Int) :
 qround Try.prog [] 100 4 [(40, .bool true), (46, .bool false), (51, .bool false), (62, .bool true)] noT RTL1 mRT (vRT a c O k n i) (hRT a c O B2 l) =
 (if decide (i < if true = true then if (c.length : Int) > (a.length : Int) then (c.length : Int) else (a.length : Int) else if (c.length : Int) < (a.length : Int) then (c.length : Int) else (a.length : Int)) = true then
 (if decide (i ≥ (a.length : Int)) = false then
 (if decide (i ≥ (c.length : Int)) = false then
 (if 0 ≤ i ∧ i < (a.length : Int) then
 (if isIntV u8 (bys a)[0 + i.toNat * 1]? = true then
 (if 0 ≤ i ∧ i < (c.length : Int) then
 (if isIntV u8 (bys c)[0 + i.toNat * 1]? = true then
 (if (intV (bys a)[0 + i.toNat * 1]? != intV (bys c)[0 + i.toNat * 1]?) = true then
 (if (2 * (n + 1) + 200) * 8 ≤ 281474976710656 ∧ some 1 = some 1 ∧ n + 1 ≤ 70368744177664 then
 (if 0 + n * 1 ≤ (List.map (int i64) l).length then
 (if 0 = 0 ∧ 0 + n * 1 = (List.map (int i64) l).length ∧ (0 < 1 ∨ 0 = 0) ∧ 1 = 1 ∧ [int i64 i].all AV.isCell = true then
 some ((AEx.norm, [AV.sl (some (0, 0)) a.length 0 false, AV.sl (some (1, 0)) c.length 0 false, AV.sl (some (3, 0)) O.length 0 false, AV.bool k, AV.sl (some (4, 0)) O.length 0 false, AV.bool k, AV.sl (some (7, 0)) (n + 1) 0 false, int i64 (i64.wrap (i + 1))], (hRT20 a c O B2 k l n i)))
 else none) else none) else none) else none) else none) else none) else none) else none) else none) else none) else none) := by
  kernel_rfl

noncomputable def hRT30 (a c O : List UInt8) (B2 : ABlk) (k : Bool) (l : List Int) (n : Nat) (i : Int) : AHeap := (hRT00 a c O B2 k l n i).take 5 ++ [cells (List.map (int i64) l) 1 Md.own none]
theorem nfRT3 (a c O : List UInt8) (B2 : ABlk) (k : Bool) (l : List Int) (n : Nat) (i : Int) :
 qround Try.prog [] 100 4 [(40, .bool true), (46, .bool false), (51, .bool false), (62, .bool false)] noT RTL1 mRT (vRT a c O k n i) (hRT a c O B2 l) =
 (if decide (i < if true = true then if (c.length : Int) > (a.length : Int) then (c.length : Int) else (a.length : Int) else if (c.length : Int) < (a.length : Int) then (c.length : Int) else (a.length : Int)) = true then
 (if decide (i ≥ (a.length : Int)) = false then
 (if decide (i ≥ (c.length : Int)) = false then
 (if 0 ≤ i ∧ i < (a.length : Int) then
 (if isIntV u8 (bys a)[0 + i.toNat * 1]? = true then
 (if 0 ≤ i ∧ i < (c.length : Int) then
 (if isIntV u8 (bys c)[0 + i.toNat * 1]? = true then
 (if (intV (bys a)[0 + i.toNat * 1]? != intV (bys c)[0 + i.toNat * 1]?) = false then
 some ((AEx.norm, [AV.sl (some (0, 0)) a.length 0 false, AV.sl (some (1, 0)) c.length 0 false, AV.sl (some (3, 0)) O.length 0 false, AV.bool k, AV.sl (some (4, 0)) O.length 0 false, AV.bool k, AV.sl (some (5, 0)) n 0 false, int i64 (i64.wrap (i + 1))], (hRT30 a c O B2 k l n i)))
 else none) else none) else none) else none) else none) else none) else none) else none) := by
  kernel_rfl

noncomputable def hRTs0 (a c O : List UInt8) (B2 : ABlk) (k : Bool) (l : List Int) (n : Nat) (i : Int) : AHeap := (hRT30 a c O B2 k l n i)
theorem nfRTs (a c O : List UInt8) (B2 : ABlk) (k : Bool) (l : List Int) (n : Nat) (i : Int) :
 qround Try.prog [] 100 4 [(40, .bool false)] noT RTL1 mRT (vRT a c O k n i) (hRT a c O B2 l) =
 (if decide (i < if true = true then if (c.length : Int) > (a.length : Int) then (c.length : Int) else (a.length : Int) else if (c.length : Int) < (a.length : Int) then (c.length : Int) else (a.length : Int)) = false then
 some ((AEx.exit 0, [AV.sl (some (0, 0)) a.length 0 false, AV.sl (some (1, 0)) c.length 0 false, AV.sl (some (3, 0)) O.length 0 false, AV.bool k, AV.sl (some (4, 0)) O.length 0 false, AV.bool k, AV.sl (some (5, 0)) n 0 false, int i64 i], (hRTs0 a c O B2 k l n i)))
 else none) := by
  kernel_rfl

noncomputable def hRTl0 (a c : List UInt8) (w : Bool) (pt : Int) (z : Nat → Int) : AHeap := [cells (bys a) 1 Md.far none, cells (bys c) 1 Md.far none, cells (adP w z pt) 18 Md.own none]
theorem nfRTl {R : Type} (a c : List UInt8) (w : Bool) (pt : Int) (z : Nat → Int) (K : AV → AHeap → Option R) :
 qrun Try.prog (tRT [] false [] 0) 100 4 [(20, .bool true)] [] 3 [slB 0 a, .agg (adF w z ++ [.int .u16 pt]), slB 1 c] [farB a, farB c] K =
 (if decide ((a.length : Int) > 3000) = true then
 K (AV.bool true) ((hRTl0 a c w pt z))
 else (if decide ((c.length : Int) > 3000) = true then
 K (AV.bool true) ((hRTl0 a c w pt z))
 else none)) := by
  kernel_rfl

noncomputable def hRTm0 (q : Prop) (a c O : List UInt8) (k w : Bool) (l : List Int) (n N : Nat) (pt : Int) (z : Nat → Int) : AHeap := [cells (bys a) 1 Md.far none, cells (bys c) 1 Md.far none, cells (adP w z pt) 18 Md.own none]
noncomputable def hRTm1 (q : Prop) (a c O : List UInt8) (k w : Bool) (l : List Int) (n N : Nat) (pt : Int) (z : Nat → Int) : AHeap := [cells (bys O) 1 Md.own none]
noncomputable def hRTm2 (q : Prop) (a c O : List UInt8) (k w : Bool) (l : List Int) (n N : Nat) (pt : Int) (z : Nat → Int) : AHeap := (hRTm0 q a c O k w l n N pt z) ++ [cells (bys O) 1 Md.own none]
noncomputable def hRTm3 (q : Prop) (a c O : List UInt8) (k w : Bool) (l : List Int) (n N : Nat) (pt : Int) (z : Nat → Int) : AHeap := (hRTm2 q a c O k w l n N pt z) ++ [cells (bys O) 1 Md.own none]
noncomputable def hRTm4 (q : Prop) (a c O : List UInt8) (k w : Bool) (l : List Int) (n N : Nat) (pt : Int) (z : Nat → Int) : AHeap := (hRTm3 q a c O k w l n N pt z) ++ [cells (List.map (int i64) l) 1 Md.own none]
noncomputable def hRTm5 (q : Prop) (a c O : List UInt8) (k w : Bool) (l : List Int) (n N : Nat) (pt : Int) (z : Nat → Int) : AHeap := [cells (List.map (int i64) l) 1 Md.own none]
noncomputable def hRTm6 (q : Prop) (a c O : List UInt8) (k w : Bool) (l : List Int) (n N : Nat) (pt : Int) (z : Nat → Int) : AHeap := (hRTm4 q a c O k w l n N pt z) ++ [cells (List.map (int i64) l) 1 Md.own none]
noncomputable def hRTm7 (q : Prop) (a c O : List UInt8) (k w : Bool) (l : List Int) (n N : Nat) (pt : Int) (z : Nat → Int) : AHeap := []
theorem nfRTm {R : Type} (q : Prop) (a c O : List UInt8) (k w : Bool) (l : List Int) (n N : Nat) (pt : Int) (z : Nat → Int) (K : AV → AHeap → Option R) :
 qrun Try.prog (tRT O k l n) 100 4 [(20, .bool false)] [(7, fixC q mRT (vRTz a c O k 0) (hRTz a c O (.cells (adF w z ++ [.int .u16 pt]) 18 .own none)) (.exit 0) (vRT a c O k n N) (hRT a c O (.cells (adF w z ++ [.int .u16 pt]) 18 .own none) l))] 3 [slB 0 a, .agg (adF w z ++ [.int .u16 pt]), slB 1 c] [farB a, farB c] K =
 (if decide ((a.length : Int) > 3000) = true then
 none
 else (if decide ((c.length : Int) > 3000) = false then
 (if cdec (TgR [AV.sl (some (0, 0)) a.length 0 false, AV.agg (adP w z pt)] (hRTm0 q a c O k w l n N pt z) (AV.tup [AV.sl (some (3, 0)) O.length 0 false, AV.bool k]) (hRTm1 q a c O k w l n N pt z)) = true then
 (if cdec (RtR [AV.sl (some (0, 0)) a.length 0 false, AV.agg (adP w z pt)] (hRTm2 q a c O k w l n N pt z) (AV.tup [AV.sl (some (4, 0)) O.length 0 false, AV.bool k]) (hRTm1 q a c O k w l n N pt z)) = true then
 (if cdec (q ∧ [AV.sl (some (0, 0)) a.length 0 false, AV.sl (some (1, 0)) c.length 0 false, AV.sl (some (3, 0)) O.length 0 false, AV.bool k, AV.sl (some (4, 0)) O.length 0 false, AV.bool k, AV.sl none 0 0 true, int i64 0] = [AV.sl (some (0, 0)) a.length 0 false, AV.sl (some (1, 0)) c.length 0 false, AV.sl (some (3, 0)) O.length 0 false, AV.bool k, AV.sl (some (4, 0)) O.length 0 false, AV.bool k, AV.sl none 0 0 true, int i64 0] ∧ (hRTm3 q a c O k w l n N pt z) = (hRTm3 q a c O k w l n N pt z)) = true then
 (if 0 + O.length ≤ (bys O).length then
 (if (List.take O.length (bys O)).all isByte = true then
 (if 0 + O.length ≤ (bys O).length then
 (if (List.take O.length (bys O)).all isByte = true then
 (if decide (List.map byteD (List.take O.length (bys O)) = List.map byteD (List.take O.length (bys O))) = true then
 (if (k == k) = true then
 (if cdec (DifR [AV.sl (some (0, 0)) a.length 0 false, AV.sl (some (1, 0)) c.length 0 false] (hRTm4 q a c O k w l n N pt z) (AV.sl (some (6, 0)) n 0 false) (hRTm5 q a c O k w l n N pt z)) = true then
 (if cdec (IntsR [AV.sl (some (6, 0)) n 0 false, AV.sl (some (5, 0)) n 0 false] (hRTm6 q a c O k w l n N pt z) (AV.bool true) (hRTm7 q a c O k w l n N pt z)) = true then
 K (AV.bool true) ((hRTm6 q a c O k w l n N pt z))
 else none) else none)
 else K (AV.bool false) ((hRTm4 q a c O k w l n N pt z)))
 else K (AV.bool false) ((hRTm4 q a c O k w l n N pt z)))
 else none) else none) else none) else none) else none) else none) else none) else none)) := by
  kernel_rfl


end Go.Proofs.Ytnchnjkakddhlaa.L
