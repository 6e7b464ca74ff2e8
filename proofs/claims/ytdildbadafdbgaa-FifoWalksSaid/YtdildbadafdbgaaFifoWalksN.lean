/- FifoWalks' rows. -/
import Derived.Test.YtdildbadafdbgaaIxsi
import Derived.Test.YtdildbadafdbgaaAllK
import Derived.Test.YtdildbadafdbgaaAddrB
import Derived.Test.YtdildbadafdbgaaAwake20
set_option autoImplicit false
set_option maxRecDepth 100000
set_option linter.unusedVariables false
namespace Go.Proofs.Ytdildbadafdbgaa.L
open Go Go.Abs
open Go.IntKind
open Go.Abs.AV (int)
open Go.Abs.ABlk (cells)

def mFW1 : List Bool := [true, true, false, false, false, true, false, true] ++ List.replicate 114 false
def mFW2 : List Bool := [true, false, false, false, false, false, false, false, false, false, true, true, true, true] ++ List.replicate 108 false
noncomputable abbrev FW1 := loopIn (bodyOf Try.prog 6) 0
noncomputable abbrev FW2 := loopIn (bodyOf Try.prog 6) 1
def farI (l : List Int) : ABlk := .cells (l.map (AV.int .i64)) 1 .far none
def vFW1 (l : List Int) (m i : Int) : List AV := [.sl (some (0, 0)) l.length 0 false, .int .i64 m, .ptr (some (1, 0)), .int .i64 i]
def hFWq (l : List Int) (x : Int) (o n : Nat) (C : List AV) : AHeap := [farI l, .cells [.int .i64 60, .int .i64 x, .sl (some (2, o)) n 0 false] 3 .own none, .cells C 2 .own none]
def vFW2 (l : List Int) (c n : Nat) (i : Int) : List AV := [.sl (some (0, 0)) l.length 0 false, .int .i64 c, .sl (some (3, 0)) c 0 false, .sl (some (4, 0)) n 0 false, .int .i64 i]
def hFWx (l : List Int) (x : Int) (o n : Nat) (C I J : List AV) : AHeap := hFWq l x o n C ++ [.cells I 3 .own none, .cells J 3 .own none]
noncomputable def tFW (n c : Nat) (I J : List AV) : Tbl := [(39, entF (eRel RIxsi [(4, .int .i64 (-1), []), (5, .int .i64 (-1), []), (6, .int .i64 (-1), []), (7, .int .i64 (-1), [])])), (25, entF (eRel AllR [(3, .sl (some (3, 0)) c 0 false, [.cells I 3 .own none]), (4, .sl (some (4, 0)) n 0 false, [.cells J 3 .own none])])), (10, entF eRound), (7, entF eAwake)]
theorem tFWOk (n c : Nat) (I J : List AV) : ∀ f E, (tFW n c I J).find f = some E → SoundE Try.prog f E := find_cons (sIxsi _) (find_cons (sAll _) (find_cons sRound (find_cons sAwake (find_nil _))))

noncomputable def hFWa0 (l : List Int) (m x i : Int) (o n : Nat) (C : List AV) : AHeap := [cells (List.map (int i64) l) 1 Md.far none, cells [int i64 60, int i64 x, AV.sl (some (2, o)) n 0 false] 3 Md.own none, ABlk.cells C 2 Md.own none, cells [int u8 (u8.wrap i), int u8 120] 1 Md.own none, cells [AV.str (List.map byteD [int u8 (u8.wrap i), int u8 120])] 1 Md.own none]
noncomputable def hFWa1 (l : List Int) (m x i : Int) (o n : Nat) (C : List AV) : AHeap := []
noncomputable def hFWa2 (l : List Int) (m x i : Int) (o n : Nat) (C : List AV) : AHeap := [cells (List.map (int i64) l) 1 Md.far none, cells [int i64 60, int i64 (i64.wrap (intV (some (int i64 x)) + 1)), AV.sl (some (6, 0)) (n + 1) 0 false] 3 Md.own none, ABlk.cells C 2 Md.ro none, cells [int u8 (u8.wrap i), int u8 120] 1 Md.own none, cells [AV.str (List.map byteD [int u8 (u8.wrap i), int u8 120])] 1 Md.own none, cells [AV.str (List.map byteD [int u8 (u8.wrap i), int u8 120]), int i64 (intV (List.map (int i64) l)[0 + i.toNat * 1]?)] 2 Md.own none, cells (List.take (n * 2) (List.drop o C) ++ [AV.str (List.map byteD [int u8 (u8.wrap i), int u8 120]), int i64 (intV (List.map (int i64) l)[0 + i.toNat * 1]?)]) 2 Md.own (some 2)]
theorem nfFWa (l : List Int) (m x i : Int) (o n : Nat) (C : List AV) :
 qround Try.prog (tFW 0 0 [] []) 100 5 [(31, .bool true), (48, .bool false)] noT FW1 mFW1 (vFW1 l m i) (hFWq l x o n C) =
 (if decide (i < (l.length : Int)) = true then
 (if 0 ≤ i ∧ i < (l.length : Int) then
 (if isIntV i64 (List.map (int i64) l)[0 + i.toNat * 1]? = true then
 (if cdec (RIxsi [AV.sl (some (2, o)) n 0 false, AV.fn (Fn.func 40) [AV.ptr (some (4, 0))]] (hFWa0 l m x i o n C) (int i64 (-1)) (hFWa1 l m x i o n C)) = true then
 (if decide ((n : Int) ≥ intV (some (int i64 60))) = true then
 (if isIntV i64 (List.map (int i64) l)[0 + i.toNat * 1]? = true then
 (if (int i64 (intV (List.map (int i64) l)[0 + i.toNat * 1]?)).beq (int i64 (intV (List.map (int i64) l)[0 + i.toNat * 1]?)) = true then
 none
 else none) else none)
 else (if (2 * (n + 1) + 200) * 24 ≤ 281474976710656 ∧ some 2 = some 2 ∧ n + 1 ≤ 70368744177664 then
 (if o + n * 2 ≤ C.length then
 (if 0 = 0 ∧ o + n * 2 = C.length ∧ (0 < 1 ∨ o = 0) ∧ 2 = 2 ∧ [AV.str (List.map byteD [int u8 (u8.wrap i), int u8 120]), int i64 (intV (List.map (int i64) l)[0 + i.toNat * 1]?)].all AV.isCell = true then
 (if isIntV i64 (List.map (int i64) l)[0 + i.toNat * 1]? = true then
 (if (int i64 (intV (List.map (int i64) l)[0 + i.toNat * 1]?)).beq (int i64 (intV (List.map (int i64) l)[0 + i.toNat * 1]?)) = true then
 some ((AEx.norm, [AV.sl (some (0, 0)) l.length 0 false, int i64 m, AV.ptr (some (1, 0)), int i64 (i64.wrap (i + 1))], (hFWa2 l m x i o n C)))
 else none) else none) else none) else none) else none))
 else none) else none) else none) else none) := by
  kernel_rfl

noncomputable def hFWs0 (l : List Int) (m x i : Int) (o n : Nat) (C : List AV) : AHeap := [cells (List.map (int i64) l) 1 Md.far none, cells [int i64 60, int i64 x, AV.sl (some (2, o)) n 0 false] 3 Md.own none, ABlk.cells C 2 Md.own none]
theorem nfFWs (l : List Int) (m x i : Int) (o n : Nat) (C : List AV) :
 qround Try.prog (tFW 0 0 [] []) 100 5 [(31, .bool false)] noT FW1 mFW1 (vFW1 l m i) (hFWq l x o n C) =
 (if decide (i < (l.length : Int)) = false then
 some ((AEx.exit 0, [AV.sl (some (0, 0)) l.length 0 false, int i64 m, AV.ptr (some (1, 0)), int i64 i], (hFWs0 l m x i o n C)))
 else none) := by
  kernel_rfl

noncomputable def hFWb0 (l : List Int) (x i : Int) (o n c k : Nat) (C I J : List AV) : AHeap := [cells (List.map (int i64) l) 1 Md.far none, cells [int i64 60, int i64 x, AV.sl (some (2, o)) k 0 false] 3 Md.own none, ABlk.cells C 2 Md.own none, ABlk.cells I 3 Md.own none, ABlk.cells J 3 Md.own none, cells [int u8 (u8.wrap i), int u8 120] 1 Md.own none]
theorem nfFWb (l : List Int) (x i : Int) (o n c k : Nat) (C I J : List AV) :
 qround Try.prog [] 100 5 [(80, .bool true), (109, .bool true), (120, .bool false)] noT FW2 mFW2 (vFW2 l c n i) (hFWx l x o k C I J) =
 (if decide (i < (l.length : Int)) = true then
 (if 0 ≤ i ∧ i < (n : Int) then
 (if isIntV i64 J[0 + i.toNat * 3 + 1]? = true then
 (if 0 ≤ i ∧ i < (l.length : Int) then
 (if isIntV i64 (List.map (int i64) l)[0 + i.toNat * 1]? = true then
 (if (intV J[0 + i.toNat * 3 + 1]? != intV (List.map (int i64) l)[0 + i.toNat * 1]?) = true then
 none
 else (if 0 ≤ i ∧ i < (n : Int) then
 (if isStrV J[0 + i.toNat * 3 + 0]? = true then
 (if (!decide (strV J[0 + i.toNat * 3 + 0]? = List.map byteD [int u8 (u8.wrap i), int u8 120])) = true then
 none
 else (if decide (i < (c : Int)) = true then
 (if 0 ≤ i ∧ i < (c : Int) then
 (if 0 + i.toNat * 3 + 3 ≤ I.length then
 (if 0 ≤ i ∧ i < (n : Int) then
 (if 0 + i.toNat * 3 + 3 ≤ J.length then
 (if isStrV (List.take 3 (List.drop (0 + i.toNat * 3) I))[0]? = true then
 (if isStrV (List.take 3 (List.drop (0 + i.toNat * 3) J))[0]? = true then
 (if isIntV i64 (List.take 3 (List.drop (0 + i.toNat * 3) I))[1]? = true then
 (if isIntV i64 (List.take 3 (List.drop (0 + i.toNat * 3) J))[1]? = true then
 (if isIntV i64 (List.take 3 (List.drop (0 + i.toNat * 3) I))[2]? = true then
 (if isIntV i64 (List.take 3 (List.drop (0 + i.toNat * 3) J))[2]? = true then
 (if (!(decide (strV (List.take 3 (List.drop (0 + i.toNat * 3) I))[0]? = strV (List.take 3 (List.drop (0 + i.toNat * 3) J))[0]?) && (intV (List.take 3 (List.drop (0 + i.toNat * 3) I))[1]? == intV (List.take 3 (List.drop (0 + i.toNat * 3) J))[1]? && (intV (List.take 3 (List.drop (0 + i.toNat * 3) I))[2]? == intV (List.take 3 (List.drop (0 + i.toNat * 3) J))[2]? && true)))) = false then
 some ((AEx.norm, [AV.sl (some (0, 0)) l.length 0 false, int i64 (c : Int), AV.sl (some (3, 0)) c 0 false, AV.sl (some (4, 0)) n 0 false, int i64 (i64.wrap (i + 1))], (hFWb0 l x i o n c k C I J)))
 else none) else none) else none) else none) else none) else none) else none) else none) else none) else none) else none) else none))
 else none) else none))
 else none) else none) else none) else none) else none) := by
  kernel_rfl

noncomputable def hFWc0 (l : List Int) (x i : Int) (o n c k : Nat) (C I J : List AV) : AHeap := [cells (List.map (int i64) l) 1 Md.far none, cells [int i64 60, int i64 x, AV.sl (some (2, o)) k 0 false] 3 Md.own none, ABlk.cells C 2 Md.own none, ABlk.cells I 3 Md.own none, ABlk.cells J 3 Md.own none, cells [int u8 (u8.wrap i), int u8 120] 1 Md.own none]
theorem nfFWc (l : List Int) (x i : Int) (o n c k : Nat) (C I J : List AV) :
 qround Try.prog [] 100 5 [(80, .bool true), (109, .bool false), (120, .bool false)] noT FW2 mFW2 (vFW2 l c n i) (hFWx l x o k C I J) =
 (if decide (i < (l.length : Int)) = true then
 (if 0 ≤ i ∧ i < (n : Int) then
 (if isIntV i64 J[0 + i.toNat * 3 + 1]? = true then
 (if 0 ≤ i ∧ i < (l.length : Int) then
 (if isIntV i64 (List.map (int i64) l)[0 + i.toNat * 1]? = true then
 (if (intV J[0 + i.toNat * 3 + 1]? != intV (List.map (int i64) l)[0 + i.toNat * 1]?) = true then
 none
 else (if 0 ≤ i ∧ i < (n : Int) then
 (if isStrV J[0 + i.toNat * 3 + 0]? = true then
 (if (!decide (strV J[0 + i.toNat * 3 + 0]? = List.map byteD [int u8 (u8.wrap i), int u8 120])) = true then
 none
 else (if decide (i < (c : Int)) = false then
 some ((AEx.norm, [AV.sl (some (0, 0)) l.length 0 false, int i64 (c : Int), AV.sl (some (3, 0)) c 0 false, AV.sl (some (4, 0)) n 0 false, int i64 (i64.wrap (i + 1))], (hFWc0 l x i o n c k C I J)))
 else none))
 else none) else none))
 else none) else none) else none) else none) else none) := by
  kernel_rfl

noncomputable def hFWt0 (l : List Int) (x i : Int) (o n c k : Nat) (C I J : List AV) : AHeap := [cells (List.map (int i64) l) 1 Md.far none, cells [int i64 60, int i64 x, AV.sl (some (2, o)) k 0 false] 3 Md.own none, ABlk.cells C 2 Md.own none, ABlk.cells I 3 Md.own none, ABlk.cells J 3 Md.own none]
theorem nfFWt (l : List Int) (x i : Int) (o n c k : Nat) (C I J : List AV) :
 qround Try.prog [] 100 5 [(80, .bool false)] noT FW2 mFW2 (vFW2 l c n i) (hFWx l x o k C I J) =
 (if decide (i < (l.length : Int)) = false then
 some ((AEx.exit 2, [AV.sl (some (0, 0)) l.length 0 false, int i64 (c : Int), AV.sl (some (3, 0)) c 0 false, AV.sl (some (4, 0)) n 0 false, int i64 i], (hFWt0 l x i o n c k C I J)))
 else none) := by
  kernel_rfl

theorem nfFWl {R : Type} (l : List Int) (m : Int) (K : AV → Option R) :
 qrun Try.prog (tFW 0 0 [] []) 100 5 [(16, .bool true)] [] 6 [.sl (some (0, 0)) l.length 0 false, .int .i64 m] [farI l] (fun v _ => K v) =
 (if decide ((l.length : Int) > 60) = true then
 K (AV.bool true)
 else none) := by
  kernel_rfl

noncomputable def hFWm0 (l : List Int) (m x : Int) (o n c k : Nat) (C I J : List AV) (q : Prop) : AHeap := [cells (List.map (int i64) l) 1 Md.far none, cells [int i64 60, int i64 0, AV.sl none 0 0 true] 3 Md.own none]
noncomputable def hFWm1 (l : List Int) (m x : Int) (o n c k : Nat) (C I J : List AV) (q : Prop) : AHeap := [cells (List.map (int i64) l) 1 Md.far none, cells [int i64 60, int i64 x, AV.sl (some (2, o)) k 0 false] 3 Md.own none, ABlk.cells C 2 Md.own none]
noncomputable def hFWm2 (l : List Int) (m x : Int) (o n c k : Nat) (C I J : List AV) (q : Prop) : AHeap := [ABlk.cells I 3 Md.own none]
noncomputable def hFWm3 (l : List Int) (m x : Int) (o n c k : Nat) (C I J : List AV) (q : Prop) : AHeap := [cells (List.map (int i64) l) 1 Md.far none, cells [int i64 60, int i64 x, AV.sl (some (2, o)) k 0 false] 3 Md.own none, ABlk.cells C 2 Md.own none, ABlk.cells I 3 Md.own none]
noncomputable def hFWm4 (l : List Int) (m x : Int) (o n c k : Nat) (C I J : List AV) (q : Prop) : AHeap := [ABlk.cells J 3 Md.own none]
noncomputable def hFWm5 (l : List Int) (m x : Int) (o n c k : Nat) (C I J : List AV) (q : Prop) : AHeap := [cells (List.map (int i64) l) 1 Md.far none, cells [int i64 60, int i64 x, AV.sl (some (2, o)) k 0 false] 3 Md.own none, ABlk.cells C 2 Md.own none, ABlk.cells I 3 Md.own none, ABlk.cells J 3 Md.own none]
theorem nfFWm {R : Type} (l : List Int) (m x : Int) (o n c k : Nat) (C I J : List AV) (q : Prop) (K : AV → Option R) :
 qrun Try.prog (tFW n c I J) 100 5 [(16, .bool false), (27, .bool false), (76, .bool false)] [(7, fixC q mFW1 (vFW1 l m 0) [farI l, .cells [.int .i64 60, .int .i64 0, .sl none 0 0 true] 3 .own none] (.exit 0) (vFW1 l m l.length) (hFWq l x o k C)), (17, fixC q mFW2 (vFW2 l c n 0) (hFWx l x o k C I J) (.exit 2) (vFW2 l c n l.length) (hFWx l x o k C I J))] 6 [.sl (some (0, 0)) l.length 0 false, .int .i64 m] [farI l] (fun v _ => K v) =
 (if decide ((l.length : Int) > 60) = false then
 (if cdec (q ∧ [AV.sl (some (0, 0)) l.length 0 false, int i64 m, AV.ptr (some (1, 0)), int i64 0] = [AV.sl (some (0, 0)) l.length 0 false, int i64 m, AV.ptr (some (1, 0)), int i64 0] ∧ (hFWm0 l m x o n c k C I J q) = (hFWm0 l m x o n c k C I J q)) = true then
 (if decide (0 < i64.wrap ((l.length : Int) + 1) ∧ i64.wrap ((l.length : Int) + 1) < 4611686018427387904) = true then
 (if cdec (AllR [AV.ptr (some (1, 0)), int i64 (m % i64.wrap ((l.length : Int) + 1))] (hFWm1 l m x o n c k C I J q) (AV.sl (some (3, 0)) c 0 false) (hFWm2 l m x o n c k C I J q)) = true then
 (if cdec (AllR [AV.ptr (some (1, 0)), int i64 (-1)] (hFWm3 l m x o n c k C I J q) (AV.sl (some (4, 0)) n 0 false) (hFWm4 l m x o n c k C I J q)) = true then
 (if ((c : Int) != m % i64.wrap ((l.length : Int) + 1)) = true then
 none
 else (if ((n : Int) != (l.length : Int)) = true then
 none
 else (if ((k : Int) != (l.length : Int)) = false then
 (if cdec (q ∧ [AV.sl (some (0, 0)) l.length 0 false, int i64 (m % i64.wrap ((l.length : Int) + 1)), AV.sl (some (3, 0)) c 0 false, AV.sl (some (4, 0)) n 0 false, int i64 0] = [AV.sl (some (0, 0)) l.length 0 false, int i64 (c : Int), AV.sl (some (3, 0)) c 0 false, AV.sl (some (4, 0)) n 0 false, int i64 0] ∧ (hFWm5 l m x o n c k C I J q) = (hFWm5 l m x o n c k C I J q)) = true then
 K (AV.bool true)
 else none) else none)))
 else none) else none) else none) else none) else none) := by
  kernel_rfl


end Go.Proofs.Ytdildbadafdbgaa.L
