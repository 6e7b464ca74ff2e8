/- OctetWords' rows. -/
import Derived.Test.YtejbipoibpefnaaTwoK
import Derived.Test.YtejbipoibpefnaaAddrB
import Derived.Test.YtejbipoibpefnaaAwake1
set_option autoImplicit false
set_option maxRecDepth 100000
set_option linter.unusedVariables false
namespace Go.Proofs.Ytejbipoibpefnaa.L
open Go Go.Abs
open Go.IntKind
open Go.Abs.AV (int)
open Go.Abs.ABlk (cells)

def mOW : List Bool := List.replicate 1 true ++ List.replicate 4 false ++ List.replicate 2 true ++ List.replicate 1 false ++ List.replicate 3 true ++ List.replicate 123 false
noncomputable abbrev OW := loopIn (bodyOf Try.prog 5) 0
def slK (k n : Nat) : AV := .sl (some (k, 0)) n 0 false
def vOW (l : List UInt8) (n c : Nat) (i : Int) : List AV := [slB 0 l, slK 1 n, slK 2 n, slK 3 c, slK 4 c, .int .i64 i]
def hOW (l : List UInt8) (n c : Nat) : AHeap := [farB l, .cells (atA n) 1 .own none, .cells (wdA l n) 1 .own none, .cells (atA c) 1 .own none, .cells (wdA l c) 1 .own none]
noncomputable def tOW (l : List UInt8) (n c : Nat) : Tbl := [(22, entF (eRel TwoR [(1, .tup [slK 1 n, slK 2 n], [.cells (atA n) 1 .own none, .cells (wdA l n) 1 .own none]), (3, .tup [slK 3 c, slK 4 c], [.cells (atA c) 1 .own none, .cells (wdA l c) 1 .own none])])), (23, entF eRound), (8, entF eAwake)]
theorem tOWOk (l : List UInt8) (n c : Nat) : ∀ f E, (tOW l n c).find f = some E → SoundE Try.prog f E := find_cons (sTwo _) (find_cons sRound (find_cons sAwake (find_nil _)))

noncomputable def hOW000 (l : List UInt8) (n c : Nat) (i : Int) : AHeap := [cells (bys l) 1 Md.far none, cells (atA n) 1 Md.own none, cells (wdA l n) 1 Md.own none, cells (atA c) 1 Md.own none, cells (wdA l c) 1 Md.own none]
theorem nfOW00 (l : List UInt8) (n c : Nat) (i : Int) :
 qround Try.prog [] 100 4 [(65, .bool true), (80, .bool true), (109, .bool false), (132, .bool false)] noT OW mOW (vOW l n c i) (hOW l n c) =
 (if decide (i < (n : Int)) = true then
 (if 0 ≤ i64.wrap (2 * i) ∧ i64.wrap (2 * i) < (l.length : Int) then
 (if isIntV u8 (bys l)[0 + (i64.wrap (2 * i)).toNat * 1]? = true then
 (if decide (i64.wrap (i64.wrap (2 * i) + 1) < (l.length : Int)) = true then
 (if 0 ≤ i64.wrap (i64.wrap (2 * i) + 1) ∧ i64.wrap (i64.wrap (2 * i) + 1) < (l.length : Int) then
 (if isIntV u8 (bys l)[0 + (i64.wrap (i64.wrap (2 * i) + 1)).toNat * 1]? = true then
 (if 0 ≤ i ∧ i < (n : Int) then
 (if isIntV i64 (atA n)[0 + i.toNat * 1]? = true then
 (if (intV (atA n)[0 + i.toNat * 1]? != i64.wrap (2 * i)) = true then
 none
 else (if 0 ≤ i ∧ i < (n : Int) then
 (if isIntV u16 (wdA l n)[0 + i.toNat * 1]? = true then
 (if (intV (wdA l n)[0 + i.toNat * 1]? != abits u16 (· ||| ·) (u16.wrap (u16.wrap (intV (bys l)[0 + (i64.wrap (2 * i)).toNat * 1]?) * 256)) (u16.wrap (intV (bys l)[0 + (i64.wrap (i64.wrap (2 * i) + 1)).toNat * 1]?))) = true then
 none
 else (if decide (i < (c : Int)) = false then
 some ((AEx.norm, [AV.sl (some (0, 0)) l.length 0 false, AV.sl (some (1, 0)) n 0 false, AV.sl (some (2, 0)) n 0 false, AV.sl (some (3, 0)) c 0 false, AV.sl (some (4, 0)) c 0 false, int i64 (i64.wrap (i + 1))], (hOW000 l n c i)))
 else none))
 else none) else none))
 else none) else none) else none) else none) else none) else none) else none) else none) := by
  kernel_rfl

noncomputable def hOW010 (l : List UInt8) (n c : Nat) (i : Int) : AHeap := [cells (bys l) 1 Md.far none, cells (atA n) 1 Md.own none, cells (wdA l n) 1 Md.own none, cells (atA c) 1 Md.own none, cells (wdA l c) 1 Md.own none]
theorem nfOW01 (l : List UInt8) (n c : Nat) (i : Int) :
 qround Try.prog [] 100 4 [(65, .bool true), (80, .bool true), (109, .bool true), (132, .bool false)] noT OW mOW (vOW l n c i) (hOW l n c) =
 (if decide (i < (n : Int)) = true then
 (if 0 ≤ i64.wrap (2 * i) ∧ i64.wrap (2 * i) < (l.length : Int) then
 (if isIntV u8 (bys l)[0 + (i64.wrap (2 * i)).toNat * 1]? = true then
 (if decide (i64.wrap (i64.wrap (2 * i) + 1) < (l.length : Int)) = true then
 (if 0 ≤ i64.wrap (i64.wrap (2 * i) + 1) ∧ i64.wrap (i64.wrap (2 * i) + 1) < (l.length : Int) then
 (if isIntV u8 (bys l)[0 + (i64.wrap (i64.wrap (2 * i) + 1)).toNat * 1]? = true then
 (if 0 ≤ i ∧ i < (n : Int) then
 (if isIntV i64 (atA n)[0 + i.toNat * 1]? = true then
 (if (intV (atA n)[0 + i.toNat * 1]? != i64.wrap (2 * i)) = true then
 none
 else (if 0 ≤ i ∧ i < (n : Int) then
 (if isIntV u16 (wdA l n)[0 + i.toNat * 1]? = true then
 (if (intV (wdA l n)[0 + i.toNat * 1]? != abits u16 (· ||| ·) (u16.wrap (u16.wrap (intV (bys l)[0 + (i64.wrap (2 * i)).toNat * 1]?) * 256)) (u16.wrap (intV (bys l)[0 + (i64.wrap (i64.wrap (2 * i) + 1)).toNat * 1]?))) = true then
 none
 else (if decide (i < (c : Int)) = true then
 (if 0 ≤ i ∧ i < (c : Int) then
 (if isIntV i64 (atA c)[0 + i.toNat * 1]? = true then
 (if 0 ≤ i ∧ i < (n : Int) then
 (if isIntV i64 (atA n)[0 + i.toNat * 1]? = true then
 (if (intV (atA c)[0 + i.toNat * 1]? != intV (atA n)[0 + i.toNat * 1]?) = true then
 none
 else (if 0 ≤ i ∧ i < (c : Int) then
 (if isIntV u16 (wdA l c)[0 + i.toNat * 1]? = true then
 (if 0 ≤ i ∧ i < (n : Int) then
 (if isIntV u16 (wdA l n)[0 + i.toNat * 1]? = true then
 (if (intV (wdA l c)[0 + i.toNat * 1]? != intV (wdA l n)[0 + i.toNat * 1]?) = false then
 some ((AEx.norm, [AV.sl (some (0, 0)) l.length 0 false, AV.sl (some (1, 0)) n 0 false, AV.sl (some (2, 0)) n 0 false, AV.sl (some (3, 0)) c 0 false, AV.sl (some (4, 0)) c 0 false, int i64 (i64.wrap (i + 1))], (hOW010 l n c i)))
 else none) else none) else none) else none) else none))
 else none) else none) else none) else none) else none))
 else none) else none))
 else none) else none) else none) else none) else none) else none) else none) else none) := by
  kernel_rfl

noncomputable def hOW100 (l : List UInt8) (n c : Nat) (i : Int) : AHeap := [cells (bys l) 1 Md.far none, cells (atA n) 1 Md.own none, cells (wdA l n) 1 Md.own none, cells (atA c) 1 Md.own none, cells (wdA l c) 1 Md.own none]
theorem nfOW10 (l : List UInt8) (n c : Nat) (i : Int) :
 qround Try.prog [] 100 4 [(65, .bool true), (80, .bool false), (109, .bool false), (132, .bool false)] noT OW mOW (vOW l n c i) (hOW l n c) =
 (if decide (i < (n : Int)) = true then
 (if 0 ≤ i64.wrap (2 * i) ∧ i64.wrap (2 * i) < (l.length : Int) then
 (if isIntV u8 (bys l)[0 + (i64.wrap (2 * i)).toNat * 1]? = true then
 (if decide (i64.wrap (i64.wrap (2 * i) + 1) < (l.length : Int)) = false then
 (if 0 ≤ i ∧ i < (n : Int) then
 (if isIntV i64 (atA n)[0 + i.toNat * 1]? = true then
 (if (intV (atA n)[0 + i.toNat * 1]? != i64.wrap (2 * i)) = true then
 none
 else (if 0 ≤ i ∧ i < (n : Int) then
 (if isIntV u16 (wdA l n)[0 + i.toNat * 1]? = true then
 (if (intV (wdA l n)[0 + i.toNat * 1]? != u16.wrap (u16.wrap (intV (bys l)[0 + (i64.wrap (2 * i)).toNat * 1]?) * 256)) = true then
 none
 else (if decide (i < (c : Int)) = false then
 some ((AEx.norm, [AV.sl (some (0, 0)) l.length 0 false, AV.sl (some (1, 0)) n 0 false, AV.sl (some (2, 0)) n 0 false, AV.sl (some (3, 0)) c 0 false, AV.sl (some (4, 0)) c 0 false, int i64 (i64.wrap (i + 1))], (hOW100 l n c i)))
 else none))
 else none) else none))
 else none) else none) else none) else none) else none) else none) := by
  kernel_rfl

noncomputable def hOW110 (l : List UInt8) (n c : Nat) (i : Int) : AHeap := [cells (bys l) 1 Md.far none, cells (atA n) 1 Md.own none, cells (wdA l n) 1 Md.own none, cells (atA c) 1 Md.own none, cells (wdA l c) 1 Md.own none]
theorem nfOW11 (l : List UInt8) (n c : Nat) (i : Int) :
 qround Try.prog [] 100 4 [(65, .bool true), (80, .bool false), (109, .bool true), (132, .bool false)] noT OW mOW (vOW l n c i) (hOW l n c) =
 (if decide (i < (n : Int)) = true then
 (if 0 ≤ i64.wrap (2 * i) ∧ i64.wrap (2 * i) < (l.length : Int) then
 (if isIntV u8 (bys l)[0 + (i64.wrap (2 * i)).toNat * 1]? = true then
 (if decide (i64.wrap (i64.wrap (2 * i) + 1) < (l.length : Int)) = false then
 (if 0 ≤ i ∧ i < (n : Int) then
 (if isIntV i64 (atA n)[0 + i.toNat * 1]? = true then
 (if (intV (atA n)[0 + i.toNat * 1]? != i64.wrap (2 * i)) = true then
 none
 else (if 0 ≤ i ∧ i < (n : Int) then
 (if isIntV u16 (wdA l n)[0 + i.toNat * 1]? = true then
 (if (intV (wdA l n)[0 + i.toNat * 1]? != u16.wrap (u16.wrap (intV (bys l)[0 + (i64.wrap (2 * i)).toNat * 1]?) * 256)) = true then
 none
 else (if decide (i < (c : Int)) = true then
 (if 0 ≤ i ∧ i < (c : Int) then
 (if isIntV i64 (atA c)[0 + i.toNat * 1]? = true then
 (if 0 ≤ i ∧ i < (n : Int) then
 (if isIntV i64 (atA n)[0 + i.toNat * 1]? = true then
 (if (intV (atA c)[0 + i.toNat * 1]? != intV (atA n)[0 + i.toNat * 1]?) = true then
 none
 else (if 0 ≤ i ∧ i < (c : Int) then
 (if isIntV u16 (wdA l c)[0 + i.toNat * 1]? = true then
 (if 0 ≤ i ∧ i < (n : Int) then
 (if isIntV u16 (wdA l n)[0 + i.toNat * 1]? = true then
 (if (intV (wdA l c)[0 + i.toNat * 1]? != intV (wdA l n)[0 + i.toNat * 1]?) = false then
 some ((AEx.norm, [AV.sl (some (0, 0)) l.length 0 false, AV.sl (some (1, 0)) n 0 false, AV.sl (some (2, 0)) n 0 false, AV.sl (some (3, 0)) c 0 false, AV.sl (some (4, 0)) c 0 false, int i64 (i64.wrap (i + 1))], (hOW110 l n c i)))
 else none) else none) else none) else none) else none))
 else none) else none) else none) else none) else none))
 else none) else none))
 else none) else none) else none) else none) else none) else none) := by
  kernel_rfl

noncomputable def hOWs0 (l : List UInt8) (n c : Nat) (i : Int) : AHeap := [cells (bys l) 1 Md.far none, cells (atA n) 1 Md.own none, cells (wdA l n) 1 Md.own none, cells (atA c) 1 Md.own none, cells (wdA l c) 1 Md.own none]
theorem nfOWs (l : List UInt8) (n c : Nat) (i : Int) :
 qround Try.prog [] 100 4 [(65, .bool false)] noT OW mOW (vOW l n c i) (hOW l n c) =
 (if decide (i < (n : Int)) = false then
 some ((AEx.exit 0, [AV.sl (some (0, 0)) l.length 0 false, AV.sl (some (1, 0)) n 0 false, AV.sl (some (2, 0)) n 0 false, AV.sl (some (3, 0)) c 0 false, AV.sl (some (4, 0)) c 0 false, int i64 i], (hOWs0 l n c i)))
 else none) := by
  kernel_rfl

noncomputable def hOW0 (l : List UInt8) (m : Int) (n c : Nat) (q : Prop) : AHeap := [cells (bys l) 1 Md.far none]
noncomputable def hOW1 (l : List UInt8) (m : Int) (n c : Nat) (q : Prop) : AHeap := [cells (atA n) 1 Md.own none, cells (wdA l n) 1 Md.own none]
noncomputable def hOW2 (l : List UInt8) (m : Int) (n c : Nat) (q : Prop) : AHeap := [cells (bys l) 1 Md.far none, cells (atA n) 1 Md.own none, cells (wdA l n) 1 Md.own none]
noncomputable def hOW3 (l : List UInt8) (m : Int) (n c : Nat) (q : Prop) : AHeap := [cells (atA c) 1 Md.own none, cells (wdA l c) 1 Md.own none]
noncomputable def hOW4 (l : List UInt8) (m : Int) (n c : Nat) (q : Prop) : AHeap := [cells (bys l) 1 Md.far none, cells (atA n) 1 Md.own none, cells (wdA l n) 1 Md.own none, cells (atA c) 1 Md.own none, cells (wdA l c) 1 Md.own none]
theorem nfOW {R : Type} (l : List UInt8) (m : Int) (n c : Nat) (q : Prop) (K : AV → Option R) :
 qrun Try.prog (tOW l n c) 100 4 [(61, .bool false)] [(9, fixC q mOW (vOW l n c 0) (hOW l n c) (.exit 0) (vOW l n c n) (hOW l n c))] 5 [slB 0 l, .int .i64 m] [farB l] (fun v _ => K v) =
 (if decide ((l.length : Int) > 300) = true then
 K (AV.bool true)
 else (if cdec (TwoR [AV.sl (some (0, 0)) l.length 0 false, int i64 (-1)] (hOW0 l m n c q) (AV.tup [AV.sl (some (1, 0)) n 0 false, AV.sl (some (2, 0)) n 0 false]) (hOW1 l m n c q)) = true then
 (if decide (0 < i64.wrap ((l.length : Int) + 1) ∧ i64.wrap ((l.length : Int) + 1) < 4611686018427387904) = true then
 (if cdec (TwoR [AV.sl (some (0, 0)) l.length 0 false, int i64 (m % i64.wrap ((l.length : Int) + 1))] (hOW2 l m n c q) (AV.tup [AV.sl (some (3, 0)) c 0 false, AV.sl (some (4, 0)) c 0 false]) (hOW3 l m n c q)) = true then
 (if ((n : Int) != i64.wrap ((i64.wrap ((l.length : Int) + 1)).tdiv 2)) = true then
 none
 else (if ((n : Int) != (n : Int)) = true then
 none
 else (if ((c : Int) != if false = true then if (n : Int) > m % i64.wrap ((l.length : Int) + 1) then (n : Int) else m % i64.wrap ((l.length : Int) + 1) else if (n : Int) < m % i64.wrap ((l.length : Int) + 1) then (n : Int) else m % i64.wrap ((l.length : Int) + 1)) = true then
 none
 else (if ((c : Int) != (c : Int)) = false then
 (if cdec (q ∧ [AV.sl (some (0, 0)) l.length 0 false, AV.sl (some (1, 0)) n 0 false, AV.sl (some (2, 0)) n 0 false, AV.sl (some (3, 0)) c 0 false, AV.sl (some (4, 0)) c 0 false, int i64 0] = [AV.sl (some (0, 0)) l.length 0 false, AV.sl (some (1, 0)) n 0 false, AV.sl (some (2, 0)) n 0 false, AV.sl (some (3, 0)) c 0 false, AV.sl (some (4, 0)) c 0 false, int i64 0] ∧ (hOW4 l m n c q) = (hOW4 l m n c q)) = true then
 K (AV.bool true)
 else none) else none))))
 else none) else none) else none)) := by
  kernel_rfl

theorem nfOWl {R : Type} (l : List UInt8) (m : Int) (K : AV → Option R) :
 qrun Try.prog (tOW l 0 0) 100 4 [(14, .bool true)] [] 5 [slB 0 l, .int .i64 m] [farB l] (fun v _ => K v) =
 (if decide ((l.length : Int) > 300) = true then
 K (AV.bool true)
 else none) := by
  kernel_rfl


end Go.Proofs.Ytejbipoibpefnaa.L
