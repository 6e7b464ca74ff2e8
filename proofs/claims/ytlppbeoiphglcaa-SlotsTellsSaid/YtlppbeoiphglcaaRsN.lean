/- The references: place, Members, Moved; Dips: their rows. -/
import Derived.Test.YtlppbeoiphglcaaImK
import Derived.Test.YtlppbeoiphglcaaRVald
set_option autoImplicit false
set_option maxRecDepth 100000
set_option linter.unusedVariables false
set_option linter.unusedSimpArgs false
namespace Go.Proofs.Ytlppbeoiphglcaa.L
open Go Go.Abs
open Go.IntKind
open Go.Abs.AV (int)
open Go.Abs.ABlk (cells)

noncomputable abbrev PLL := loopIn (bodyOf Try.prog 25) 0
noncomputable abbrev MB1 := loopIn (bodyOf Try.prog 13) 0
noncomputable abbrev MB2 := loopIn MB1 0
noncomputable abbrev RML := loopIn (bodyOf Try.prog 19) 0
noncomputable abbrev DPL := loopIn (bodyOf Try.prog 17) 0
def mPl : List Bool := List.replicate 1 true ++ List.replicate 2 false ++ List.replicate 3 true ++ List.replicate 14 false
def mMb1 : List Bool := List.replicate 1 true ++ List.replicate 1 false ++ List.replicate 2 true ++ List.replicate 50 false
def mMb2 : List Bool := List.replicate 1 true ++ List.replicate 1 false ++ List.replicate 3 true ++ List.replicate 49 false
def mRm : List Bool := List.replicate 2 true ++ List.replicate 3 false ++ List.replicate 2 true ++ List.replicate 35 false
def mDp : List Bool := List.replicate 2 true ++ List.replicate 2 false ++ List.replicate 2 true ++ List.replicate 20 false
noncomputable def tMb : Tbl := [(27, entF eValR)]
theorem tMbOk : ∀ f E, tMb.find f = some E → SoundE Try.prog f E := find_cons sRVald (find_nil _)
def vPl (k : Nat) (r i : Int) : List AV := [.sl (some (0, 0)) k 0 false, .ptr (some (1, 0)), .int .i64 r, .int .i64 i]
def hPl (C D : List AV) : AHeap := [.cells C 19 .far none, .cells D 18 .own none]
def vMb1 (k : Nat) (b : Bool) (i : Int) : List AV := [.sl (some (0, 0)) k 0 false, .bool b, .int .i64 i]
def vMb2 (k : Nat) (b : Bool) (i j : Int) : List AV := [.sl (some (0, 0)) k 0 false, .bool b, .int .i64 i, .int .i64 j]
def hMb (C : List AV) : AHeap := [.cells C 19 .far none]
def vRm (a b : Nat) (n i : Int) : List AV := [.sl (some (0, 0)) a 0 false, .sl (some (1, 0)) b 0 false, .int .i64 n, .int .i64 i]
def vDp (a b : Nat) (r : Bool) (i : Int) : List AV := [.sl (some (0, 0)) a 0 false, .sl (some (1, 0)) b 0 false, .bool r, .int .i64 i]
def hRm (A B : List AV) : AHeap := [.cells A 18 .far none, .cells B 18 .far none]
def _root_.Go.Abs.orF (m : List Bool) (p : List AV → AHeap → Bool) (s1 s2 : LoopF) : LoopF where
  run := fun env h K => if p (pickS m env) h = true then s1.run env h K else s2.run env h K
  nat := fun env h K => by
    by_cases hp : p (pickS m env) h = true
    · simp only [if_pos hp]; exact s1.nat env h K
    · simp only [if_neg hp]; exact s2.nat env h K
theorem _root_.Go.Abs.orF_sound {P : Program} {m : List Bool} {p : List AV → AHeap → Bool} {s1 s2 : LoopF} {c : Code} (h1 : SoundS P s1 c) (h2 : SoundS P s2 c) : SoundS P (orF m p s1 s2) c := by
  intro W0 B σ h env a w e env' h' hg
  unfold LoopF.get orF at hg
  by_cases hp : p (pickS m env) h = true
  · simp only [if_pos hp] at hg; exact h1 hg
  · simp only [if_neg hp] at hg; exact h2 hg
noncomputable def dupJ (P : PL) (i : Nat) : Nat := atP P (P.getD i (⟨false, [0, 0, 0, 0, 0, 0, 0, 0, 0, 0, 0, 0, 0, 0, 0, 0], 0, rfl⟩, 0)).1
noncomputable def dupMb (vs : List AV) (h : AHeap) : Bool := match vs with
  | [m, _, .int .i64 i, _] => opq (decide (dupJ (plOf (rowOf h m)) i.toNat < i.toNat))
  | _ => false
noncomputable def tellMb1 (vs : List AV) (h : AHeap) : List AV × AHeap := match vs with
  | [m, b, .int .i64 i, _] => ([m, b, .int .i64 i, .int .i64 (opq (dupJ (plOf (rowOf h m)) i.toNat : Nat))], h)
  | _ => (vs, h)
noncomputable def tellMb2 (vs : List AV) (h : AHeap) : List AV × AHeap := match vs with
  | [m, b, .int .i64 i, _] => ([m, b, .int .i64 i, .int .i64 i], h)
  | _ => (vs, h)
noncomputable abbrev bMb2 := roundG Try.prog (deepT Try.prog tMb 100 4) (lsT noT) MB2 mMb2
noncomputable def lsMb2 : LoopTT := mixT [(7, orF mMb2 dupMb (fixS bMb2 mMb2 .ret tellMb1) (fixS bMb2 mMb2 (.exit 2) tellMb2))] noT
theorem lsMbOk : LoopsOk Try.prog (lsT lsMb2) MB1 := by
  unfold lsMb2
  rw [mixT_ls]
  have hl : loopsOf MB1 = [MB2] := by kernel_rfl
  intro b hb s hs
  rw [hl] at hb
  simp only [List.mem_cons, List.not_mem_nil, or_false] at hb
  unfold mixLS at hs
  subst hb
  rw [show firstReg MB2 = 7 by kernel_rfl] at hs
  simp only [lsOf, if_true] at hs
  cases hs
  exact orF_sound (fixS_sound tMbOk (noLoops (by kernel_rfl))) (fixS_sound tMbOk (noLoops (by kernel_rfl)))

noncomputable def hPla0 (C D : List AV) (k : Nat) (i : Int) : AHeap := [ABlk.cells C 19 Md.far none, ABlk.cells D 18 Md.own none]
theorem nfPla (C D : List AV) (k : Nat) (i : Int) :
 qround Try.prog [] 100 4 [(9, .bool true), (18, .bool false)] noT PLL mPl (vPl k 0 i) (hPl C D) =
 (if decide (i < (k : Int)) = true then
 (if 0 ≤ i ∧ i < (k : Int) then
 (if 0 + i.toNat * 19 + 0 + 18 ≤ C.length then
 (if 18 ≤ D.length then
 (if 17 ≤ (List.take 18 (List.drop (0 + i.toNat * 19 + 0) C)).length then
 (if 17 ≤ (List.take 18 D).length then
 (if isBoolV (List.take 17 (List.take 18 (List.drop (0 + i.toNat * 19 + 0) C)))[0]? = true then
 (if isBoolV (List.take 17 (List.take 18 D))[0]? = true then
 (if 17 ≤ (List.take 17 (List.take 18 (List.drop (0 + i.toNat * 19 + 0) C))).length then
 (if 17 ≤ (List.take 17 (List.take 18 D)).length then
 (if isIntV u8 (List.take 16 (List.drop 1 (List.take 17 (List.take 18 (List.drop (0 + i.toNat * 19 + 0) C)))))[0]? = true then
 (if isIntV u8 (List.take 16 (List.drop 1 (List.take 17 (List.take 18 D))))[0]? = true then
 (if isIntV u8 (List.take 16 (List.drop 1 (List.take 17 (List.take 18 (List.drop (0 + i.toNat * 19 + 0) C)))))[1]? = true then
 (if isIntV u8 (List.take 16 (List.drop 1 (List.take 17 (List.take 18 D))))[1]? = true then
 (if isIntV u8 (List.take 16 (List.drop 1 (List.take 17 (List.take 18 (List.drop (0 + i.toNat * 19 + 0) C)))))[2]? = true then
 (if isIntV u8 (List.take 16 (List.drop 1 (List.take 17 (List.take 18 D))))[2]? = true then
 (if isIntV u8 (List.take 16 (List.drop 1 (List.take 17 (List.take 18 (List.drop (0 + i.toNat * 19 + 0) C)))))[3]? = true then
 (if isIntV u8 (List.take 16 (List.drop 1 (List.take 17 (List.take 18 D))))[3]? = true then
 (if isIntV u8 (List.take 16 (List.drop 1 (List.take 17 (List.take 18 (List.drop (0 + i.toNat * 19 + 0) C)))))[4]? = true then
 (if isIntV u8 (List.take 16 (List.drop 1 (List.take 17 (List.take 18 D))))[4]? = true then
 (if isIntV u8 (List.take 16 (List.drop 1 (List.take 17 (List.take 18 (List.drop (0 + i.toNat * 19 + 0) C)))))[5]? = true then
 (if isIntV u8 (List.take 16 (List.drop 1 (List.take 17 (List.take 18 D))))[5]? = true then
 (if isIntV u8 (List.take 16 (List.drop 1 (List.take 17 (List.take 18 (List.drop (0 + i.toNat * 19 + 0) C)))))[6]? = true then
 (if isIntV u8 (List.take 16 (List.drop 1 (List.take 17 (List.take 18 D))))[6]? = true then
 (if isIntV u8 (List.take 16 (List.drop 1 (List.take 17 (List.take 18 (List.drop (0 + i.toNat * 19 + 0) C)))))[7]? = true then
 (if isIntV u8 (List.take 16 (List.drop 1 (List.take 17 (List.take 18 D))))[7]? = true then
 (if isIntV u8 (List.take 16 (List.drop 1 (List.take 17 (List.take 18 (List.drop (0 + i.toNat * 19 + 0) C)))))[8]? = true then
 (if isIntV u8 (List.take 16 (List.drop 1 (List.take 17 (List.take 18 D))))[8]? = true then
 (if isIntV u8 (List.take 16 (List.drop 1 (List.take 17 (List.take 18 (List.drop (0 + i.toNat * 19 + 0) C)))))[9]? = true then
 (if isIntV u8 (List.take 16 (List.drop 1 (List.take 17 (List.take 18 D))))[9]? = true then
 (if isIntV u8 (List.take 16 (List.drop 1 (List.take 17 (List.take 18 (List.drop (0 + i.toNat * 19 + 0) C)))))[10]? = true then
 (if isIntV u8 (List.take 16 (List.drop 1 (List.take 17 (List.take 18 D))))[10]? = true then
 (if isIntV u8 (List.take 16 (List.drop 1 (List.take 17 (List.take 18 (List.drop (0 + i.toNat * 19 + 0) C)))))[11]? = true then
 (if isIntV u8 (List.take 16 (List.drop 1 (List.take 17 (List.take 18 D))))[11]? = true then
 (if isIntV u8 (List.take 16 (List.drop 1 (List.take 17 (List.take 18 (List.drop (0 + i.toNat * 19 + 0) C)))))[12]? = true then
 (if isIntV u8 (List.take 16 (List.drop 1 (List.take 17 (List.take 18 D))))[12]? = true then
 (if isIntV u8 (List.take 16 (List.drop 1 (List.take 17 (List.take 18 (List.drop (0 + i.toNat * 19 + 0) C)))))[13]? = true then
 (if isIntV u8 (List.take 16 (List.drop 1 (List.take 17 (List.take 18 D))))[13]? = true then
 (if isIntV u8 (List.take 16 (List.drop 1 (List.take 17 (List.take 18 (List.drop (0 + i.toNat * 19 + 0) C)))))[14]? = true then
 (if isIntV u8 (List.take 16 (List.drop 1 (List.take 17 (List.take 18 D))))[14]? = true then
 (if isIntV u8 (List.take 16 (List.drop 1 (List.take 17 (List.take 18 (List.drop (0 + i.toNat * 19 + 0) C)))))[15]? = true then
 (if isIntV u8 (List.take 16 (List.drop 1 (List.take 17 (List.take 18 D))))[15]? = true then
 (if isIntV u16 (List.take 18 (List.drop (0 + i.toNat * 19 + 0) C))[17]? = true then
 (if isIntV u16 (List.take 18 D)[17]? = true then
 (if (boolV (List.take 17 (List.take 18 (List.drop (0 + i.toNat * 19 + 0) C)))[0]? == boolV (List.take 17 (List.take 18 D))[0]? && (intV (List.take 16 (List.drop 1 (List.take 17 (List.take 18 (List.drop (0 + i.toNat * 19 + 0) C)))))[0]? == intV (List.take 16 (List.drop 1 (List.take 17 (List.take 18 D))))[0]? && (intV (List.take 16 (List.drop 1 (List.take 17 (List.take 18 (List.drop (0 + i.toNat * 19 + 0) C)))))[1]? == intV (List.take 16 (List.drop 1 (List.take 17 (List.take 18 D))))[1]? && (intV (List.take 16 (List.drop 1 (List.take 17 (List.take 18 (List.drop (0 + i.toNat * 19 + 0) C)))))[2]? == intV (List.take 16 (List.drop 1 (List.take 17 (List.take 18 D))))[2]? && (intV (List.take 16 (List.drop 1 (List.take 17 (List.take 18 (List.drop (0 + i.toNat * 19 + 0) C)))))[3]? == intV (List.take 16 (List.drop 1 (List.take 17 (List.take 18 D))))[3]? && (intV (List.take 16 (List.drop 1 (List.take 17 (List.take 18 (List.drop (0 + i.toNat * 19 + 0) C)))))[4]? == intV (List.take 16 (List.drop 1 (List.take 17 (List.take 18 D))))[4]? && (intV (List.take 16 (List.drop 1 (List.take 17 (List.take 18 (List.drop (0 + i.toNat * 19 + 0) C)))))[5]? == intV (List.take 16 (List.drop 1 (List.take 17 (List.take 18 D))))[5]? && (intV (List.take 16 (List.drop 1 (List.take 17 (List.take 18 (List.drop (0 + i.toNat * 19 + 0) C)))))[6]? == intV (List.take 16 (List.drop 1 (List.take 17 (List.take 18 D))))[6]? && (intV (List.take 16 (List.drop 1 (List.take 17 (List.take 18 (List.drop (0 + i.toNat * 19 + 0) C)))))[7]? == intV (List.take 16 (List.drop 1 (List.take 17 (List.take 18 D))))[7]? && (intV (List.take 16 (List.drop 1 (List.take 17 (List.take 18 (List.drop (0 + i.toNat * 19 + 0) C)))))[8]? == intV (List.take 16 (List.drop 1 (List.take 17 (List.take 18 D))))[8]? && (intV (List.take 16 (List.drop 1 (List.take 17 (List.take 18 (List.drop (0 + i.toNat * 19 + 0) C)))))[9]? == intV (List.take 16 (List.drop 1 (List.take 17 (List.take 18 D))))[9]? && (intV (List.take 16 (List.drop 1 (List.take 17 (List.take 18 (List.drop (0 + i.toNat * 19 + 0) C)))))[10]? == intV (List.take 16 (List.drop 1 (List.take 17 (List.take 18 D))))[10]? && (intV (List.take 16 (List.drop 1 (List.take 17 (List.take 18 (List.drop (0 + i.toNat * 19 + 0) C)))))[11]? == intV (List.take 16 (List.drop 1 (List.take 17 (List.take 18 D))))[11]? && (intV (List.take 16 (List.drop 1 (List.take 17 (List.take 18 (List.drop (0 + i.toNat * 19 + 0) C)))))[12]? == intV (List.take 16 (List.drop 1 (List.take 17 (List.take 18 D))))[12]? && (intV (List.take 16 (List.drop 1 (List.take 17 (List.take 18 (List.drop (0 + i.toNat * 19 + 0) C)))))[13]? == intV (List.take 16 (List.drop 1 (List.take 17 (List.take 18 D))))[13]? && (intV (List.take 16 (List.drop 1 (List.take 17 (List.take 18 (List.drop (0 + i.toNat * 19 + 0) C)))))[14]? == intV (List.take 16 (List.drop 1 (List.take 17 (List.take 18 D))))[14]? && (intV (List.take 16 (List.drop 1 (List.take 17 (List.take 18 (List.drop (0 + i.toNat * 19 + 0) C)))))[15]? == intV (List.take 16 (List.drop 1 (List.take 17 (List.take 18 D))))[15]? && true))))))))))))))) && true) && (intV (List.take 18 (List.drop (0 + i.toNat * 19 + 0) C))[17]? == intV (List.take 18 D)[17]? && true)) = false then
 some ((AEx.norm, [AV.sl (some (0, 0)) k 0 false, AV.ptr (some (1, 0)), int i64 0, int i64 (i64.wrap (i + 1))], (hPla0 C D k i)))
 else none) else none) else none) else none) else none) else none) else none) else none) else none) else none) else none) else none) else none) else none) else none) else none) else none) else none) else none) else none) else none) else none) else none) else none) else none) else none) else none) else none) else none) else none) else none) else none) else none) else none) else none) else none) else none) else none) else none) else none) else none) else none) else none) else none) else none) := by
  kernel_rfl

noncomputable def hPlb0 (C D : List AV) (k : Nat) (i : Int) : AHeap := [ABlk.cells C 19 Md.far none, ABlk.cells D 18 Md.own none]
theorem nfPlb (C D : List AV) (k : Nat) (i : Int) :
 qround Try.prog [] 100 4 [(9, .bool true), (18, .bool true)] noT PLL mPl (vPl k 0 i) (hPl C D) =
 (if decide (i < (k : Int)) = true then
 (if 0 ≤ i ∧ i < (k : Int) then
 (if 0 + i.toNat * 19 + 0 + 18 ≤ C.length then
 (if 18 ≤ D.length then
 (if 17 ≤ (List.take 18 (List.drop (0 + i.toNat * 19 + 0) C)).length then
 (if 17 ≤ (List.take 18 D).length then
 (if isBoolV (List.take 17 (List.take 18 (List.drop (0 + i.toNat * 19 + 0) C)))[0]? = true then
 (if isBoolV (List.take 17 (List.take 18 D))[0]? = true then
 (if 17 ≤ (List.take 17 (List.take 18 (List.drop (0 + i.toNat * 19 + 0) C))).length then
 (if 17 ≤ (List.take 17 (List.take 18 D)).length then
 (if isIntV u8 (List.take 16 (List.drop 1 (List.take 17 (List.take 18 (List.drop (0 + i.toNat * 19 + 0) C)))))[0]? = true then
 (if isIntV u8 (List.take 16 (List.drop 1 (List.take 17 (List.take 18 D))))[0]? = true then
 (if isIntV u8 (List.take 16 (List.drop 1 (List.take 17 (List.take 18 (List.drop (0 + i.toNat * 19 + 0) C)))))[1]? = true then
 (if isIntV u8 (List.take 16 (List.drop 1 (List.take 17 (List.take 18 D))))[1]? = true then
 (if isIntV u8 (List.take 16 (List.drop 1 (List.take 17 (List.take 18 (List.drop (0 + i.toNat * 19 + 0) C)))))[2]? = true then
 (if isIntV u8 (List.take 16 (List.drop 1 (List.take 17 (List.take 18 D))))[2]? = true then
 (if isIntV u8 (List.take 16 (List.drop 1 (List.take 17 (List.take 18 (List.drop (0 + i.toNat * 19 + 0) C)))))[3]? = true then
 (if isIntV u8 (List.take 16 (List.drop 1 (List.take 17 (List.take 18 D))))[3]? = true then
 (if isIntV u8 (List.take 16 (List.drop 1 (List.take 17 (List.take 18 (List.drop (0 + i.toNat * 19 + 0) C)))))[4]? = true then
 (if isIntV u8 (List.take 16 (List.drop 1 (List.take 17 (List.take 18 D))))[4]? = true then
 (if isIntV u8 (List.take 16 (List.drop 1 (List.take 17 (List.take 18 (List.drop (0 + i.toNat * 19 + 0) C)))))[5]? = true then
 (if isIntV u8 (List.take 16 (List.drop 1 (List.take 17 (List.take 18 D))))[5]? = true then
 (if isIntV u8 (List.take 16 (List.drop 1 (List.take 17 (List.take 18 (List.drop (0 + i.toNat * 19 + 0) C)))))[6]? = true then
 (if isIntV u8 (List.take 16 (List.drop 1 (List.take 17 (List.take 18 D))))[6]? = true then
 (if isIntV u8 (List.take 16 (List.drop 1 (List.take 17 (List.take 18 (List.drop (0 + i.toNat * 19 + 0) C)))))[7]? = true then
 (if isIntV u8 (List.take 16 (List.drop 1 (List.take 17 (List.take 18 D))))[7]? = true then
 (if isIntV u8 (List.take 16 (List.drop 1 (List.take 17 (List.take 18 (List.drop (0 + i.toNat * 19 + 0) C)))))[8]? = true then
 (if isIntV u8 (List.take 16 (List.drop 1 (List.take 17 (List.take 18 D))))[8]? = true then
 (if isIntV u8 (List.take 16 (List.drop 1 (List.take 17 (List.take 18 (List.drop (0 + i.toNat * 19 + 0) C)))))[9]? = true then
 (if isIntV u8 (List.take 16 (List.drop 1 (List.take 17 (List.take 18 D))))[9]? = true then
 (if isIntV u8 (List.take 16 (List.drop 1 (List.take 17 (List.take 18 (List.drop (0 + i.toNat * 19 + 0) C)))))[10]? = true then
 (if isIntV u8 (List.take 16 (List.drop 1 (List.take 17 (List.take 18 D))))[10]? = true then
 (if isIntV u8 (List.take 16 (List.drop 1 (List.take 17 (List.take 18 (List.drop (0 + i.toNat * 19 + 0) C)))))[11]? = true then
 (if isIntV u8 (List.take 16 (List.drop 1 (List.take 17 (List.take 18 D))))[11]? = true then
 (if isIntV u8 (List.take 16 (List.drop 1 (List.take 17 (List.take 18 (List.drop (0 + i.toNat * 19 + 0) C)))))[12]? = true then
 (if isIntV u8 (List.take 16 (List.drop 1 (List.take 17 (List.take 18 D))))[12]? = true then
 (if isIntV u8 (List.take 16 (List.drop 1 (List.take 17 (List.take 18 (List.drop (0 + i.toNat * 19 + 0) C)))))[13]? = true then
 (if isIntV u8 (List.take 16 (List.drop 1 (List.take 17 (List.take 18 D))))[13]? = true then
 (if isIntV u8 (List.take 16 (List.drop 1 (List.take 17 (List.take 18 (List.drop (0 + i.toNat * 19 + 0) C)))))[14]? = true then
 (if isIntV u8 (List.take 16 (List.drop 1 (List.take 17 (List.take 18 D))))[14]? = true then
 (if isIntV u8 (List.take 16 (List.drop 1 (List.take 17 (List.take 18 (List.drop (0 + i.toNat * 19 + 0) C)))))[15]? = true then
 (if isIntV u8 (List.take 16 (List.drop 1 (List.take 17 (List.take 18 D))))[15]? = true then
 (if isIntV u16 (List.take 18 (List.drop (0 + i.toNat * 19 + 0) C))[17]? = true then
 (if isIntV u16 (List.take 18 D)[17]? = true then
 (if (boolV (List.take 17 (List.take 18 (List.drop (0 + i.toNat * 19 + 0) C)))[0]? == boolV (List.take 17 (List.take 18 D))[0]? && (intV (List.take 16 (List.drop 1 (List.take 17 (List.take 18 (List.drop (0 + i.toNat * 19 + 0) C)))))[0]? == intV (List.take 16 (List.drop 1 (List.take 17 (List.take 18 D))))[0]? && (intV (List.take 16 (List.drop 1 (List.take 17 (List.take 18 (List.drop (0 + i.toNat * 19 + 0) C)))))[1]? == intV (List.take 16 (List.drop 1 (List.take 17 (List.take 18 D))))[1]? && (intV (List.take 16 (List.drop 1 (List.take 17 (List.take 18 (List.drop (0 + i.toNat * 19 + 0) C)))))[2]? == intV (List.take 16 (List.drop 1 (List.take 17 (List.take 18 D))))[2]? && (intV (List.take 16 (List.drop 1 (List.take 17 (List.take 18 (List.drop (0 + i.toNat * 19 + 0) C)))))[3]? == intV (List.take 16 (List.drop 1 (List.take 17 (List.take 18 D))))[3]? && (intV (List.take 16 (List.drop 1 (List.take 17 (List.take 18 (List.drop (0 + i.toNat * 19 + 0) C)))))[4]? == intV (List.take 16 (List.drop 1 (List.take 17 (List.take 18 D))))[4]? && (intV (List.take 16 (List.drop 1 (List.take 17 (List.take 18 (List.drop (0 + i.toNat * 19 + 0) C)))))[5]? == intV (List.take 16 (List.drop 1 (List.take 17 (List.take 18 D))))[5]? && (intV (List.take 16 (List.drop 1 (List.take 17 (List.take 18 (List.drop (0 + i.toNat * 19 + 0) C)))))[6]? == intV (List.take 16 (List.drop 1 (List.take 17 (List.take 18 D))))[6]? && (intV (List.take 16 (List.drop 1 (List.take 17 (List.take 18 (List.drop (0 + i.toNat * 19 + 0) C)))))[7]? == intV (List.take 16 (List.drop 1 (List.take 17 (List.take 18 D))))[7]? && (intV (List.take 16 (List.drop 1 (List.take 17 (List.take 18 (List.drop (0 + i.toNat * 19 + 0) C)))))[8]? == intV (List.take 16 (List.drop 1 (List.take 17 (List.take 18 D))))[8]? && (intV (List.take 16 (List.drop 1 (List.take 17 (List.take 18 (List.drop (0 + i.toNat * 19 + 0) C)))))[9]? == intV (List.take 16 (List.drop 1 (List.take 17 (List.take 18 D))))[9]? && (intV (List.take 16 (List.drop 1 (List.take 17 (List.take 18 (List.drop (0 + i.toNat * 19 + 0) C)))))[10]? == intV (List.take 16 (List.drop 1 (List.take 17 (List.take 18 D))))[10]? && (intV (List.take 16 (List.drop 1 (List.take 17 (List.take 18 (List.drop (0 + i.toNat * 19 + 0) C)))))[11]? == intV (List.take 16 (List.drop 1 (List.take 17 (List.take 18 D))))[11]? && (intV (List.take 16 (List.drop 1 (List.take 17 (List.take 18 (List.drop (0 + i.toNat * 19 + 0) C)))))[12]? == intV (List.take 16 (List.drop 1 (List.take 17 (List.take 18 D))))[12]? && (intV (List.take 16 (List.drop 1 (List.take 17 (List.take 18 (List.drop (0 + i.toNat * 19 + 0) C)))))[13]? == intV (List.take 16 (List.drop 1 (List.take 17 (List.take 18 D))))[13]? && (intV (List.take 16 (List.drop 1 (List.take 17 (List.take 18 (List.drop (0 + i.toNat * 19 + 0) C)))))[14]? == intV (List.take 16 (List.drop 1 (List.take 17 (List.take 18 D))))[14]? && (intV (List.take 16 (List.drop 1 (List.take 17 (List.take 18 (List.drop (0 + i.toNat * 19 + 0) C)))))[15]? == intV (List.take 16 (List.drop 1 (List.take 17 (List.take 18 D))))[15]? && true))))))))))))))) && true) && (intV (List.take 18 (List.drop (0 + i.toNat * 19 + 0) C))[17]? == intV (List.take 18 D)[17]? && true)) = true then
 some ((AEx.ret, [AV.sl (some (0, 0)) k 0 false, AV.ptr (some (1, 0)), int i64 i, int i64 i], (hPlb0 C D k i)))
 else none) else none) else none) else none) else none) else none) else none) else none) else none) else none) else none) else none) else none) else none) else none) else none) else none) else none) else none) else none) else none) else none) else none) else none) else none) else none) else none) else none) else none) else none) else none) else none) else none) else none) else none) else none) else none) else none) else none) else none) else none) else none) else none) else none) else none) := by
  kernel_rfl

noncomputable def hPls0 (C D : List AV) (k : Nat) (i : Int) : AHeap := [ABlk.cells C 19 Md.far none, ABlk.cells D 18 Md.own none]
theorem nfPls (C D : List AV) (k : Nat) (i : Int) :
 qround Try.prog [] 100 4 [(9, .bool false)] noT PLL mPl (vPl k 0 i) (hPl C D) =
 (if decide (i < (k : Int)) = false then
 some ((AEx.exit 0, [AV.sl (some (0, 0)) k 0 false, AV.ptr (some (1, 0)), int i64 0, int i64 i], (hPls0 C D k i)))
 else none) := by
  kernel_rfl

noncomputable def hPle0 (q : Prop) (C D : List AV) (k : Nat) (r i : Int) : AHeap := [ABlk.cells C 19 Md.far none, ABlk.cells D 18 Md.own none]
theorem nfPle {R : Type} (q : Prop) (C D : List AV) (k : Nat) (r i : Int) (K : AV → AHeap → Option R) :
 qrun Try.prog [] 100 4 [] [(2, fixC q mPl (vPl k 0 0) (hPl C D) (.exit 0) (vPl k r i) (hPl C D))] 25 [.sl (some (0, 0)) k 0 false, .agg D] [.cells C 19 .far none] K =
 (if cdec (q ∧ [AV.sl (some (0, 0)) k 0 false, AV.ptr (some (1, 0)), int i64 0, int i64 0] = [AV.sl (some (0, 0)) k 0 false, AV.ptr (some (1, 0)), int i64 0, int i64 0] ∧ (hPle0 q C D k r i) = (hPle0 q C D k r i)) = true then
 K (int i64 (-1)) ((hPle0 q C D k r i))
 else none) := by
  kernel_rfl

noncomputable def hPlr0 (q : Prop) (C D : List AV) (k : Nat) (r i : Int) : AHeap := [ABlk.cells C 19 Md.far none, ABlk.cells D 18 Md.own none]
theorem nfPlr {R : Type} (q : Prop) (C D : List AV) (k : Nat) (r i : Int) (K : AV → AHeap → Option R) :
 qrun Try.prog [] 100 4 [] [(2, fixC q mPl (vPl k 0 0) (hPl C D) .ret (vPl k r i) (hPl C D))] 25 [.sl (some (0, 0)) k 0 false, .agg D] [.cells C 19 .far none] K =
 (if cdec (q ∧ [AV.sl (some (0, 0)) k 0 false, AV.ptr (some (1, 0)), int i64 0, int i64 0] = [AV.sl (some (0, 0)) k 0 false, AV.ptr (some (1, 0)), int i64 0, int i64 0] ∧ (hPlr0 q C D k r i) = (hPlr0 q C D k r i)) = true then
 K (int i64 r) ((hPlr0 q C D k r i))
 else none) := by
  kernel_rfl

noncomputable def hMb2a0 (C : List AV) (k : Nat) (i j : Int) : AHeap := [ABlk.cells C 19 Md.far none]
theorem nfMb2a (C : List AV) (k : Nat) (i j : Int) :
 qround Try.prog tMb 100 4 [(37, .bool true), (50, .bool false)] noT MB2 mMb2 (vMb2 k false i j) (hMb C) =
 (if decide (j < i) = true then
 (if 0 ≤ j ∧ j < (k : Int) then
 (if 0 + j.toNat * 19 + 0 + 18 ≤ C.length then
 (if 0 ≤ i ∧ i < (k : Int) then
 (if 0 + i.toNat * 19 + 0 + 18 ≤ C.length then
 (if 17 ≤ (List.take 18 (List.drop (0 + j.toNat * 19 + 0) C)).length then
 (if 17 ≤ (List.take 18 (List.drop (0 + i.toNat * 19 + 0) C)).length then
 (if isBoolV (List.take 17 (List.take 18 (List.drop (0 + j.toNat * 19 + 0) C)))[0]? = true then
 (if isBoolV (List.take 17 (List.take 18 (List.drop (0 + i.toNat * 19 + 0) C)))[0]? = true then
 (if 17 ≤ (List.take 17 (List.take 18 (List.drop (0 + j.toNat * 19 + 0) C))).length then
 (if 17 ≤ (List.take 17 (List.take 18 (List.drop (0 + i.toNat * 19 + 0) C))).length then
 (if isIntV u8 (List.take 16 (List.drop 1 (List.take 17 (List.take 18 (List.drop (0 + j.toNat * 19 + 0) C)))))[0]? = true then
 (if isIntV u8 (List.take 16 (List.drop 1 (List.take 17 (List.take 18 (List.drop (0 + i.toNat * 19 + 0) C)))))[0]? = true then
 (if isIntV u8 (List.take 16 (List.drop 1 (List.take 17 (List.take 18 (List.drop (0 + j.toNat * 19 + 0) C)))))[1]? = true then
 (if isIntV u8 (List.take 16 (List.drop 1 (List.take 17 (List.take 18 (List.drop (0 + i.toNat * 19 + 0) C)))))[1]? = true then
 (if isIntV u8 (List.take 16 (List.drop 1 (List.take 17 (List.take 18 (List.drop (0 + j.toNat * 19 + 0) C)))))[2]? = true then
 (if isIntV u8 (List.take 16 (List.drop 1 (List.take 17 (List.take 18 (List.drop (0 + i.toNat * 19 + 0) C)))))[2]? = true then
 (if isIntV u8 (List.take 16 (List.drop 1 (List.take 17 (List.take 18 (List.drop (0 + j.toNat * 19 + 0) C)))))[3]? = true then
 (if isIntV u8 (List.take 16 (List.drop 1 (List.take 17 (List.take 18 (List.drop (0 + i.toNat * 19 + 0) C)))))[3]? = true then
 (if isIntV u8 (List.take 16 (List.drop 1 (List.take 17 (List.take 18 (List.drop (0 + j.toNat * 19 + 0) C)))))[4]? = true then
 (if isIntV u8 (List.take 16 (List.drop 1 (List.take 17 (List.take 18 (List.drop (0 + i.toNat * 19 + 0) C)))))[4]? = true then
 (if isIntV u8 (List.take 16 (List.drop 1 (List.take 17 (List.take 18 (List.drop (0 + j.toNat * 19 + 0) C)))))[5]? = true then
 (if isIntV u8 (List.take 16 (List.drop 1 (List.take 17 (List.take 18 (List.drop (0 + i.toNat * 19 + 0) C)))))[5]? = true then
 (if isIntV u8 (List.take 16 (List.drop 1 (List.take 17 (List.take 18 (List.drop (0 + j.toNat * 19 + 0) C)))))[6]? = true then
 (if isIntV u8 (List.take 16 (List.drop 1 (List.take 17 (List.take 18 (List.drop (0 + i.toNat * 19 + 0) C)))))[6]? = true then
 (if isIntV u8 (List.take 16 (List.drop 1 (List.take 17 (List.take 18 (List.drop (0 + j.toNat * 19 + 0) C)))))[7]? = true then
 (if isIntV u8 (List.take 16 (List.drop 1 (List.take 17 (List.take 18 (List.drop (0 + i.toNat * 19 + 0) C)))))[7]? = true then
 (if isIntV u8 (List.take 16 (List.drop 1 (List.take 17 (List.take 18 (List.drop (0 + j.toNat * 19 + 0) C)))))[8]? = true then
 (if isIntV u8 (List.take 16 (List.drop 1 (List.take 17 (List.take 18 (List.drop (0 + i.toNat * 19 + 0) C)))))[8]? = true then
 (if isIntV u8 (List.take 16 (List.drop 1 (List.take 17 (List.take 18 (List.drop (0 + j.toNat * 19 + 0) C)))))[9]? = true then
 (if isIntV u8 (List.take 16 (List.drop 1 (List.take 17 (List.take 18 (List.drop (0 + i.toNat * 19 + 0) C)))))[9]? = true then
 (if isIntV u8 (List.take 16 (List.drop 1 (List.take 17 (List.take 18 (List.drop (0 + j.toNat * 19 + 0) C)))))[10]? = true then
 (if isIntV u8 (List.take 16 (List.drop 1 (List.take 17 (List.take 18 (List.drop (0 + i.toNat * 19 + 0) C)))))[10]? = true then
 (if isIntV u8 (List.take 16 (List.drop 1 (List.take 17 (List.take 18 (List.drop (0 + j.toNat * 19 + 0) C)))))[11]? = true then
 (if isIntV u8 (List.take 16 (List.drop 1 (List.take 17 (List.take 18 (List.drop (0 + i.toNat * 19 + 0) C)))))[11]? = true then
 (if isIntV u8 (List.take 16 (List.drop 1 (List.take 17 (List.take 18 (List.drop (0 + j.toNat * 19 + 0) C)))))[12]? = true then
 (if isIntV u8 (List.take 16 (List.drop 1 (List.take 17 (List.take 18 (List.drop (0 + i.toNat * 19 + 0) C)))))[12]? = true then
 (if isIntV u8 (List.take 16 (List.drop 1 (List.take 17 (List.take 18 (List.drop (0 + j.toNat * 19 + 0) C)))))[13]? = true then
 (if isIntV u8 (List.take 16 (List.drop 1 (List.take 17 (List.take 18 (List.drop (0 + i.toNat * 19 + 0) C)))))[13]? = true then
 (if isIntV u8 (List.take 16 (List.drop 1 (List.take 17 (List.take 18 (List.drop (0 + j.toNat * 19 + 0) C)))))[14]? = true then
 (if isIntV u8 (List.take 16 (List.drop 1 (List.take 17 (List.take 18 (List.drop (0 + i.toNat * 19 + 0) C)))))[14]? = true then
 (if isIntV u8 (List.take 16 (List.drop 1 (List.take 17 (List.take 18 (List.drop (0 + j.toNat * 19 + 0) C)))))[15]? = true then
 (if isIntV u8 (List.take 16 (List.drop 1 (List.take 17 (List.take 18 (List.drop (0 + i.toNat * 19 + 0) C)))))[15]? = true then
 (if isIntV u16 (List.take 18 (List.drop (0 + j.toNat * 19 + 0) C))[17]? = true then
 (if isIntV u16 (List.take 18 (List.drop (0 + i.toNat * 19 + 0) C))[17]? = true then
 (if (boolV (List.take 17 (List.take 18 (List.drop (0 + j.toNat * 19 + 0) C)))[0]? == boolV (List.take 17 (List.take 18 (List.drop (0 + i.toNat * 19 + 0) C)))[0]? && (intV (List.take 16 (List.drop 1 (List.take 17 (List.take 18 (List.drop (0 + j.toNat * 19 + 0) C)))))[0]? == intV (List.take 16 (List.drop 1 (List.take 17 (List.take 18 (List.drop (0 + i.toNat * 19 + 0) C)))))[0]? && (intV (List.take 16 (List.drop 1 (List.take 17 (List.take 18 (List.drop (0 + j.toNat * 19 + 0) C)))))[1]? == intV (List.take 16 (List.drop 1 (List.take 17 (List.take 18 (List.drop (0 + i.toNat * 19 + 0) C)))))[1]? && (intV (List.take 16 (List.drop 1 (List.take 17 (List.take 18 (List.drop (0 + j.toNat * 19 + 0) C)))))[2]? == intV (List.take 16 (List.drop 1 (List.take 17 (List.take 18 (List.drop (0 + i.toNat * 19 + 0) C)))))[2]? && (intV (List.take 16 (List.drop 1 (List.take 17 (List.take 18 (List.drop (0 + j.toNat * 19 + 0) C)))))[3]? == intV (List.take 16 (List.drop 1 (List.take 17 (List.take 18 (List.drop (0 + i.toNat * 19 + 0) C)))))[3]? && (intV (List.take 16 (List.drop 1 (List.take 17 (List.take 18 (List.drop (0 + j.toNat * 19 + 0) C)))))[4]? == intV (List.take 16 (List.drop 1 (List.take 17 (List.take 18 (List.drop (0 + i.toNat * 19 + 0) C)))))[4]? && (intV (List.take 16 (List.drop 1 (List.take 17 (List.take 18 (List.drop (0 + j.toNat * 19 + 0) C)))))[5]? == intV (List.take 16 (List.drop 1 (List.take 17 (List.take 18 (List.drop (0 + i.toNat * 19 + 0) C)))))[5]? && (intV (List.take 16 (List.drop 1 (List.take 17 (List.take 18 (List.drop (0 + j.toNat * 19 + 0) C)))))[6]? == intV (List.take 16 (List.drop 1 (List.take 17 (List.take 18 (List.drop (0 + i.toNat * 19 + 0) C)))))[6]? && (intV (List.take 16 (List.drop 1 (List.take 17 (List.take 18 (List.drop (0 + j.toNat * 19 + 0) C)))))[7]? == intV (List.take 16 (List.drop 1 (List.take 17 (List.take 18 (List.drop (0 + i.toNat * 19 + 0) C)))))[7]? && (intV (List.take 16 (List.drop 1 (List.take 17 (List.take 18 (List.drop (0 + j.toNat * 19 + 0) C)))))[8]? == intV (List.take 16 (List.drop 1 (List.take 17 (List.take 18 (List.drop (0 + i.toNat * 19 + 0) C)))))[8]? && (intV (List.take 16 (List.drop 1 (List.take 17 (List.take 18 (List.drop (0 + j.toNat * 19 + 0) C)))))[9]? == intV (List.take 16 (List.drop 1 (List.take 17 (List.take 18 (List.drop (0 + i.toNat * 19 + 0) C)))))[9]? && (intV (List.take 16 (List.drop 1 (List.take 17 (List.take 18 (List.drop (0 + j.toNat * 19 + 0) C)))))[10]? == intV (List.take 16 (List.drop 1 (List.take 17 (List.take 18 (List.drop (0 + i.toNat * 19 + 0) C)))))[10]? && (intV (List.take 16 (List.drop 1 (List.take 17 (List.take 18 (List.drop (0 + j.toNat * 19 + 0) C)))))[11]? == intV (List.take 16 (List.drop 1 (List.take 17 (List.take 18 (List.drop (0 + i.toNat * 19 + 0) C)))))[11]? && (intV (List.take 16 (List.drop 1 (List.take 17 (List.take 18 (List.drop (0 + j.toNat * 19 + 0) C)))))[12]? == intV (List.take 16 (List.drop 1 (List.take 17 (List.take 18 (List.drop (0 + i.toNat * 19 + 0) C)))))[12]? && (intV (List.take 16 (List.drop 1 (List.take 17 (List.take 18 (List.drop (0 + j.toNat * 19 + 0) C)))))[13]? == intV (List.take 16 (List.drop 1 (List.take 17 (List.take 18 (List.drop (0 + i.toNat * 19 + 0) C)))))[13]? && (intV (List.take 16 (List.drop 1 (List.take 17 (List.take 18 (List.drop (0 + j.toNat * 19 + 0) C)))))[14]? == intV (List.take 16 (List.drop 1 (List.take 17 (List.take 18 (List.drop (0 + i.toNat * 19 + 0) C)))))[14]? && (intV (List.take 16 (List.drop 1 (List.take 17 (List.take 18 (List.drop (0 + j.toNat * 19 + 0) C)))))[15]? == intV (List.take 16 (List.drop 1 (List.take 17 (List.take 18 (List.drop (0 + i.toNat * 19 + 0) C)))))[15]? && true))))))))))))))) && true) && (intV (List.take 18 (List.drop (0 + j.toNat * 19 + 0) C))[17]? == intV (List.take 18 (List.drop (0 + i.toNat * 19 + 0) C))[17]? && true)) = false then
 some ((AEx.norm, [AV.sl (some (0, 0)) k 0 false, AV.bool false, int i64 i, int i64 (i64.wrap (j + 1))], (hMb2a0 C k i j)))
 else none) else none) else none) else none) else none) else none) else none) else none) else none) else none) else none) else none) else none) else none) else none) else none) else none) else none) else none) else none) else none) else none) else none) else none) else none) else none) else none) else none) else none) else none) else none) else none) else none) else none) else none) else none) else none) else none) else none) else none) else none) else none) else none) else none) else none) else none) := by
  kernel_rfl

noncomputable def hMb2b0 (C : List AV) (k : Nat) (i j : Int) : AHeap := [ABlk.cells C 19 Md.far none]
theorem nfMb2b (C : List AV) (k : Nat) (i j : Int) :
 qround Try.prog tMb 100 4 [(37, .bool true), (50, .bool true)] noT MB2 mMb2 (vMb2 k false i j) (hMb C) =
 (if decide (j < i) = true then
 (if 0 ≤ j ∧ j < (k : Int) then
 (if 0 + j.toNat * 19 + 0 + 18 ≤ C.length then
 (if 0 ≤ i ∧ i < (k : Int) then
 (if 0 + i.toNat * 19 + 0 + 18 ≤ C.length then
 (if 17 ≤ (List.take 18 (List.drop (0 + j.toNat * 19 + 0) C)).length then
 (if 17 ≤ (List.take 18 (List.drop (0 + i.toNat * 19 + 0) C)).length then
 (if isBoolV (List.take 17 (List.take 18 (List.drop (0 + j.toNat * 19 + 0) C)))[0]? = true then
 (if isBoolV (List.take 17 (List.take 18 (List.drop (0 + i.toNat * 19 + 0) C)))[0]? = true then
 (if 17 ≤ (List.take 17 (List.take 18 (List.drop (0 + j.toNat * 19 + 0) C))).length then
 (if 17 ≤ (List.take 17 (List.take 18 (List.drop (0 + i.toNat * 19 + 0) C))).length then
 (if isIntV u8 (List.take 16 (List.drop 1 (List.take 17 (List.take 18 (List.drop (0 + j.toNat * 19 + 0) C)))))[0]? = true then
 (if isIntV u8 (List.take 16 (List.drop 1 (List.take 17 (List.take 18 (List.drop (0 + i.toNat * 19 + 0) C)))))[0]? = true then
 (if isIntV u8 (List.take 16 (List.drop 1 (List.take 17 (List.take 18 (List.drop (0 + j.toNat * 19 + 0) C)))))[1]? = true then
 (if isIntV u8 (List.take 16 (List.drop 1 (List.take 17 (List.take 18 (List.drop (0 + i.toNat * 19 + 0) C)))))[1]? = true then
 (if isIntV u8 (List.take 16 (List.drop 1 (List.take 17 (List.take 18 (List.drop (0 + j.toNat * 19 + 0) C)))))[2]? = true then
 (if isIntV u8 (List.take 16 (List.drop 1 (List.take 17 (List.take 18 (List.drop (0 + i.toNat * 19 + 0) C)))))[2]? = true then
 (if isIntV u8 (List.take 16 (List.drop 1 (List.take 17 (List.take 18 (List.drop (0 + j.toNat * 19 + 0) C)))))[3]? = true then
 (if isIntV u8 (List.take 16 (List.drop 1 (List.take 17 (List.take 18 (List.drop (0 + i.toNat * 19 + 0) C)))))[3]? = true then
 (if isIntV u8 (List.take 16 (List.drop 1 (List.take 17 (List.take 18 (List.drop (0 + j.toNat * 19 + 0) C)))))[4]? = true then
 (if isIntV u8 (List.take 16 (List.drop 1 (List.take 17 (List.take 18 (List.drop (0 + i.toNat * 19 + 0) C)))))[4]? = true then
 (if isIntV u8 (List.take 16 (List.drop 1 (List.take 17 (List.take 18 (List.drop (0 + j.toNat * 19 + 0) C)))))[5]? = true then
 (if isIntV u8 (List.take 16 (List.drop 1 (List.take 17 (List.take 18 (List.drop (0 + i.toNat * 19 + 0) C)))))[5]? = true then
 (if isIntV u8 (List.take 16 (List.drop 1 (List.take 17 (List.take 18 (List.drop (0 + j.toNat * 19 + 0) C)))))[6]? = true then
 (if isIntV u8 (List.take 16 (List.drop 1 (List.take 17 (List.take 18 (List.drop (0 + i.toNat * 19 + 0) C)))))[6]? = true then
 (if isIntV u8 (List.take 16 (List.drop 1 (List.take 17 (List.take 18 (List.drop (0 + j.toNat * 19 + 0) C)))))[7]? = true then
 (if isIntV u8 (List.take 16 (List.drop 1 (List.take 17 (List.take 18 (List.drop (0 + i.toNat * 19 + 0) C)))))[7]? = true then
 (if isIntV u8 (List.take 16 (List.drop 1 (List.take 17 (List.take 18 (List.drop (0 + j.toNat * 19 + 0) C)))))[8]? = true then
 (if isIntV u8 (List.take 16 (List.drop 1 (List.take 17 (List.take 18 (List.drop (0 + i.toNat * 19 + 0) C)))))[8]? = true then
 (if isIntV u8 (List.take 16 (List.drop 1 (List.take 17 (List.take 18 (List.drop (0 + j.toNat * 19 + 0) C)))))[9]? = true then
 (if isIntV u8 (List.take 16 (List.drop 1 (List.take 17 (List.take 18 (List.drop (0 + i.toNat * 19 + 0) C)))))[9]? = true then
 (if isIntV u8 (List.take 16 (List.drop 1 (List.take 17 (List.take 18 (List.drop (0 + j.toNat * 19 + 0) C)))))[10]? = true then
 (if isIntV u8 (List.take 16 (List.drop 1 (List.take 17 (List.take 18 (List.drop (0 + i.toNat * 19 + 0) C)))))[10]? = true then
 (if isIntV u8 (List.take 16 (List.drop 1 (List.take 17 (List.take 18 (List.drop (0 + j.toNat * 19 + 0) C)))))[11]? = true then
 (if isIntV u8 (List.take 16 (List.drop 1 (List.take 17 (List.take 18 (List.drop (0 + i.toNat * 19 + 0) C)))))[11]? = true then
 (if isIntV u8 (List.take 16 (List.drop 1 (List.take 17 (List.take 18 (List.drop (0 + j.toNat * 19 + 0) C)))))[12]? = true then
 (if isIntV u8 (List.take 16 (List.drop 1 (List.take 17 (List.take 18 (List.drop (0 + i.toNat * 19 + 0) C)))))[12]? = true then
 (if isIntV u8 (List.take 16 (List.drop 1 (List.take 17 (List.take 18 (List.drop (0 + j.toNat * 19 + 0) C)))))[13]? = true then
 (if isIntV u8 (List.take 16 (List.drop 1 (List.take 17 (List.take 18 (List.drop (0 + i.toNat * 19 + 0) C)))))[13]? = true then
 (if isIntV u8 (List.take 16 (List.drop 1 (List.take 17 (List.take 18 (List.drop (0 + j.toNat * 19 + 0) C)))))[14]? = true then
 (if isIntV u8 (List.take 16 (List.drop 1 (List.take 17 (List.take 18 (List.drop (0 + i.toNat * 19 + 0) C)))))[14]? = true then
 (if isIntV u8 (List.take 16 (List.drop 1 (List.take 17 (List.take 18 (List.drop (0 + j.toNat * 19 + 0) C)))))[15]? = true then
 (if isIntV u8 (List.take 16 (List.drop 1 (List.take 17 (List.take 18 (List.drop (0 + i.toNat * 19 + 0) C)))))[15]? = true then
 (if isIntV u16 (List.take 18 (List.drop (0 + j.toNat * 19 + 0) C))[17]? = true then
 (if isIntV u16 (List.take 18 (List.drop (0 + i.toNat * 19 + 0) C))[17]? = true then
 (if (boolV (List.take 17 (List.take 18 (List.drop (0 + j.toNat * 19 + 0) C)))[0]? == boolV (List.take 17 (List.take 18 (List.drop (0 + i.toNat * 19 + 0) C)))[0]? && (intV (List.take 16 (List.drop 1 (List.take 17 (List.take 18 (List.drop (0 + j.toNat * 19 + 0) C)))))[0]? == intV (List.take 16 (List.drop 1 (List.take 17 (List.take 18 (List.drop (0 + i.toNat * 19 + 0) C)))))[0]? && (intV (List.take 16 (List.drop 1 (List.take 17 (List.take 18 (List.drop (0 + j.toNat * 19 + 0) C)))))[1]? == intV (List.take 16 (List.drop 1 (List.take 17 (List.take 18 (List.drop (0 + i.toNat * 19 + 0) C)))))[1]? && (intV (List.take 16 (List.drop 1 (List.take 17 (List.take 18 (List.drop (0 + j.toNat * 19 + 0) C)))))[2]? == intV (List.take 16 (List.drop 1 (List.take 17 (List.take 18 (List.drop (0 + i.toNat * 19 + 0) C)))))[2]? && (intV (List.take 16 (List.drop 1 (List.take 17 (List.take 18 (List.drop (0 + j.toNat * 19 + 0) C)))))[3]? == intV (List.take 16 (List.drop 1 (List.take 17 (List.take 18 (List.drop (0 + i.toNat * 19 + 0) C)))))[3]? && (intV (List.take 16 (List.drop 1 (List.take 17 (List.take 18 (List.drop (0 + j.toNat * 19 + 0) C)))))[4]? == intV (List.take 16 (List.drop 1 (List.take 17 (List.take 18 (List.drop (0 + i.toNat * 19 + 0) C)))))[4]? && (intV (List.take 16 (List.drop 1 (List.take 17 (List.take 18 (List.drop (0 + j.toNat * 19 + 0) C)))))[5]? == intV (List.take 16 (List.drop 1 (List.take 17 (List.take 18 (List.drop (0 + i.toNat * 19 + 0) C)))))[5]? && (intV (List.take 16 (List.drop 1 (List.take 17 (List.take 18 (List.drop (0 + j.toNat * 19 + 0) C)))))[6]? == intV (List.take 16 (List.drop 1 (List.take 17 (List.take 18 (List.drop (0 + i.toNat * 19 + 0) C)))))[6]? && (intV (List.take 16 (List.drop 1 (List.take 17 (List.take 18 (List.drop (0 + j.toNat * 19 + 0) C)))))[7]? == intV (List.take 16 (List.drop 1 (List.take 17 (List.take 18 (List.drop (0 + i.toNat * 19 + 0) C)))))[7]? && (intV (List.take 16 (List.drop 1 (List.take 17 (List.take 18 (List.drop (0 + j.toNat * 19 + 0) C)))))[8]? == intV (List.take 16 (List.drop 1 (List.take 17 (List.take 18 (List.drop (0 + i.toNat * 19 + 0) C)))))[8]? && (intV (List.take 16 (List.drop 1 (List.take 17 (List.take 18 (List.drop (0 + j.toNat * 19 + 0) C)))))[9]? == intV (List.take 16 (List.drop 1 (List.take 17 (List.take 18 (List.drop (0 + i.toNat * 19 + 0) C)))))[9]? && (intV (List.take 16 (List.drop 1 (List.take 17 (List.take 18 (List.drop (0 + j.toNat * 19 + 0) C)))))[10]? == intV (List.take 16 (List.drop 1 (List.take 17 (List.take 18 (List.drop (0 + i.toNat * 19 + 0) C)))))[10]? && (intV (List.take 16 (List.drop 1 (List.take 17 (List.take 18 (List.drop (0 + j.toNat * 19 + 0) C)))))[11]? == intV (List.take 16 (List.drop 1 (List.take 17 (List.take 18 (List.drop (0 + i.toNat * 19 + 0) C)))))[11]? && (intV (List.take 16 (List.drop 1 (List.take 17 (List.take 18 (List.drop (0 + j.toNat * 19 + 0) C)))))[12]? == intV (List.take 16 (List.drop 1 (List.take 17 (List.take 18 (List.drop (0 + i.toNat * 19 + 0) C)))))[12]? && (intV (List.take 16 (List.drop 1 (List.take 17 (List.take 18 (List.drop (0 + j.toNat * 19 + 0) C)))))[13]? == intV (List.take 16 (List.drop 1 (List.take 17 (List.take 18 (List.drop (0 + i.toNat * 19 + 0) C)))))[13]? && (intV (List.take 16 (List.drop 1 (List.take 17 (List.take 18 (List.drop (0 + j.toNat * 19 + 0) C)))))[14]? == intV (List.take 16 (List.drop 1 (List.take 17 (List.take 18 (List.drop (0 + i.toNat * 19 + 0) C)))))[14]? && (intV (List.take 16 (List.drop 1 (List.take 17 (List.take 18 (List.drop (0 + j.toNat * 19 + 0) C)))))[15]? == intV (List.take 16 (List.drop 1 (List.take 17 (List.take 18 (List.drop (0 + i.toNat * 19 + 0) C)))))[15]? && true))))))))))))))) && true) && (intV (List.take 18 (List.drop (0 + j.toNat * 19 + 0) C))[17]? == intV (List.take 18 (List.drop (0 + i.toNat * 19 + 0) C))[17]? && true)) = true then
 some ((AEx.ret, [AV.sl (some (0, 0)) k 0 false, AV.bool false, int i64 i, int i64 j], (hMb2b0 C k i j)))
 else none) else none) else none) else none) else none) else none) else none) else none) else none) else none) else none) else none) else none) else none) else none) else none) else none) else none) else none) else none) else none) else none) else none) else none) else none) else none) else none) else none) else none) else none) else none) else none) else none) else none) else none) else none) else none) else none) else none) else none) else none) else none) else none) else none) else none) else none) := by
  kernel_rfl

noncomputable def hMb2s0 (C : List AV) (k : Nat) (i j : Int) : AHeap := [ABlk.cells C 19 Md.far none]
theorem nfMb2s (C : List AV) (k : Nat) (i j : Int) :
 qround Try.prog tMb 100 4 [(37, .bool false)] noT MB2 mMb2 (vMb2 k false i j) (hMb C) =
 (if decide (j < i) = false then
 some ((AEx.exit 2, [AV.sl (some (0, 0)) k 0 false, AV.bool false, int i64 i, int i64 j], (hMb2s0 C k i j)))
 else none) := by
  kernel_rfl

noncomputable def hMb1a0 (C : List AV) (k : Nat) (i : Int) : AHeap := [ABlk.cells C 19 Md.far none]
theorem nfMb1a (C : List AV) (k : Nat) (i : Int) :
 qround Try.prog tMb 100 4 [(8, .bool true), (34, .bool false)] lsMb2 MB1 mMb1 (vMb1 k false i) (hMb C) =
 (if decide (i < (k : Int)) = true then
 (if 0 ≤ i ∧ i < (k : Int) then
 (if 0 + i.toNat * 19 + 0 + 0 + 17 ≤ C.length then
 (if cdec (IsAdr (List.take 17 (List.drop (0 + i.toNat * 19 + 0 + 0) C))) = true then
 (if (!opq (adrValid (List.take 17 (List.drop (0 + i.toNat * 19 + 0 + 0) C)))) = true then
 none
 else (if 0 ≤ i ∧ i < (k : Int) then
 (if isIntV i64 C[0 + i.toNat * 19 + 18]? = true then
 (if decide (intV C[0 + i.toNat * 19 + 18]? < 1) = true then
 none
 else (if 0 ≤ i ∧ i < (k : Int) then
 (if isIntV i64 C[0 + i.toNat * 19 + 18]? = true then
 (if decide (intV C[0 + i.toNat * 19 + 18]? > 16) = false then
 (if dupMb [AV.sl (some (0, 0)) k 0 false, AV.bool false, int i64 i, int i64 0] (hMb1a0 C k i) = true then
 (if cdec (LSays bMb2 1 [AV.sl (some (0, 0)) k 0 false, AV.bool false, int i64 i, int i64 0] (hMb1a0 C k i) AEx.ret [AV.sl (some (0, 0)) k 0 false, AV.bool false, int i64 i, int i64 (opq (((dupJ (plOf (rowOf (hMb1a0 C k i) (AV.sl (some (0, 0)) k 0 false))) i.toNat) : Nat) : Int))] (hMb1a0 C k i)) = true then
 some ((AEx.ret, [AV.sl (some (0, 0)) k 0 false, AV.bool false, int i64 i], (hMb1a0 C k i)))
 else none)
 else (if cdec (LSays bMb2 1 [AV.sl (some (0, 0)) k 0 false, AV.bool false, int i64 i, int i64 0] (hMb1a0 C k i) (AEx.exit 2) [AV.sl (some (0, 0)) k 0 false, AV.bool false, int i64 i, int i64 i] (hMb1a0 C k i)) = true then
 some ((AEx.norm, [AV.sl (some (0, 0)) k 0 false, AV.bool false, int i64 (i64.wrap (i + 1))], (hMb1a0 C k i)))
 else none))
 else none) else none) else none))
 else none) else none))
 else none) else none) else none) else none) := by
  kernel_rfl

noncomputable def hMb1b0 (C : List AV) (k : Nat) (i : Int) : AHeap := [ABlk.cells C 19 Md.far none]
theorem nfMb1b (C : List AV) (k : Nat) (i : Int) :
 qround Try.prog tMb 100 4 [(8, .bool true), (34, .bool true)] lsMb2 MB1 mMb1 (vMb1 k false i) (hMb C) =
 (if decide (i < (k : Int)) = true then
 (if 0 ≤ i ∧ i < (k : Int) then
 (if 0 + i.toNat * 19 + 0 + 0 + 17 ≤ C.length then
 (if cdec (IsAdr (List.take 17 (List.drop (0 + i.toNat * 19 + 0 + 0) C))) = true then
 (if (!opq (adrValid (List.take 17 (List.drop (0 + i.toNat * 19 + 0 + 0) C)))) = true then
 some ((AEx.ret, [AV.sl (some (0, 0)) k 0 false, AV.bool false, int i64 i], (hMb1b0 C k i)))
 else (if 0 ≤ i ∧ i < (k : Int) then
 (if isIntV i64 C[0 + i.toNat * 19 + 18]? = true then
 (if decide (intV C[0 + i.toNat * 19 + 18]? < 1) = true then
 some ((AEx.ret, [AV.sl (some (0, 0)) k 0 false, AV.bool false, int i64 i], (hMb1b0 C k i)))
 else (if 0 ≤ i ∧ i < (k : Int) then
 (if isIntV i64 C[0 + i.toNat * 19 + 18]? = true then
 (if decide (intV C[0 + i.toNat * 19 + 18]? > 16) = true then
 some ((AEx.ret, [AV.sl (some (0, 0)) k 0 false, AV.bool false, int i64 i], (hMb1b0 C k i)))
 else none) else none) else none))
 else none) else none))
 else none) else none) else none) else none) := by
  kernel_rfl

noncomputable def hMb1s0 (C : List AV) (k : Nat) (i : Int) : AHeap := [ABlk.cells C 19 Md.far none]
theorem nfMb1s (C : List AV) (k : Nat) (i : Int) :
 qround Try.prog tMb 100 4 [(8, .bool false)] lsMb2 MB1 mMb1 (vMb1 k false i) (hMb C) =
 (if decide (i < (k : Int)) = false then
 some ((AEx.exit 0, [AV.sl (some (0, 0)) k 0 false, AV.bool false, int i64 i], (hMb1s0 C k i)))
 else none) := by
  kernel_rfl

noncomputable def hMbe0 (q : Prop) (C : List AV) (k : Nat) (b : Bool) (i : Int) : AHeap := [ABlk.cells C 19 Md.far none]
theorem nfMbe {R : Type} (q : Prop) (C : List AV) (k : Nat) (b : Bool) (i : Int) (K : AV → AHeap → Option R) :
 qrun Try.prog tMb 100 4 [] [(2, fixC q mMb1 (vMb1 k false 0) (hMb C) (.exit 0) (vMb1 k b i) (hMb C))] 13 [.sl (some (0, 0)) k 0 false] (hMb C) K =
 (if cdec (q ∧ [AV.sl (some (0, 0)) k 0 false, AV.bool false, int i64 0] = [AV.sl (some (0, 0)) k 0 false, AV.bool false, int i64 0] ∧ (hMbe0 q C k b i) = (hMbe0 q C k b i)) = true then
 K (AV.bool (decide ((k : Int) ≤ 32))) ((hMbe0 q C k b i))
 else none) := by
  kernel_rfl

noncomputable def hMbr0 (q : Prop) (C : List AV) (k : Nat) (b : Bool) (i : Int) : AHeap := [ABlk.cells C 19 Md.far none]
theorem nfMbr {R : Type} (q : Prop) (C : List AV) (k : Nat) (b : Bool) (i : Int) (K : AV → AHeap → Option R) :
 qrun Try.prog tMb 100 4 [] [(2, fixC q mMb1 (vMb1 k false 0) (hMb C) .ret (vMb1 k b i) (hMb C))] 13 [.sl (some (0, 0)) k 0 false] (hMb C) K =
 (if cdec (q ∧ [AV.sl (some (0, 0)) k 0 false, AV.bool false, int i64 0] = [AV.sl (some (0, 0)) k 0 false, AV.bool false, int i64 0] ∧ (hMbr0 q C k b i) = (hMbr0 q C k b i)) = true then
 K (AV.bool b) ((hMbr0 q C k b i))
 else none) := by
  kernel_rfl

noncomputable def hRma0 (A B : List AV) (a b : Nat) (n i : Int) : AHeap := [ABlk.cells A 18 Md.far none, ABlk.cells B 18 Md.far none]
theorem nfRma (A B : List AV) (a b : Nat) (n i : Int) :
 qround Try.prog [] 100 4 [(27, .bool true), (38, .bool true)] noT RML mRm (vRm a b n i) (hRm A B) =
 (if decide (i < (a : Int)) = true then
 (if decide (i < (b : Int)) = true then
 (if 0 ≤ i ∧ i < (a : Int) then
 (if 0 + i.toNat * 18 + 18 ≤ A.length then
 (if 0 ≤ i ∧ i < (b : Int) then
 (if 0 + i.toNat * 18 + 18 ≤ B.length then
 (if 17 ≤ (List.take 18 (List.drop (0 + i.toNat * 18) A)).length then
 (if 17 ≤ (List.take 18 (List.drop (0 + i.toNat * 18) B)).length then
 (if isBoolV (List.take 17 (List.take 18 (List.drop (0 + i.toNat * 18) A)))[0]? = true then
 (if isBoolV (List.take 17 (List.take 18 (List.drop (0 + i.toNat * 18) B)))[0]? = true then
 (if 17 ≤ (List.take 17 (List.take 18 (List.drop (0 + i.toNat * 18) A))).length then
 (if 17 ≤ (List.take 17 (List.take 18 (List.drop (0 + i.toNat * 18) B))).length then
 (if isIntV u8 (List.take 16 (List.drop 1 (List.take 17 (List.take 18 (List.drop (0 + i.toNat * 18) A)))))[0]? = true then
 (if isIntV u8 (List.take 16 (List.drop 1 (List.take 17 (List.take 18 (List.drop (0 + i.toNat * 18) B)))))[0]? = true then
 (if isIntV u8 (List.take 16 (List.drop 1 (List.take 17 (List.take 18 (List.drop (0 + i.toNat * 18) A)))))[1]? = true then
 (if isIntV u8 (List.take 16 (List.drop 1 (List.take 17 (List.take 18 (List.drop (0 + i.toNat * 18) B)))))[1]? = true then
 (if isIntV u8 (List.take 16 (List.drop 1 (List.take 17 (List.take 18 (List.drop (0 + i.toNat * 18) A)))))[2]? = true then
 (if isIntV u8 (List.take 16 (List.drop 1 (List.take 17 (List.take 18 (List.drop (0 + i.toNat * 18) B)))))[2]? = true then
 (if isIntV u8 (List.take 16 (List.drop 1 (List.take 17 (List.take 18 (List.drop (0 + i.toNat * 18) A)))))[3]? = true then
 (if isIntV u8 (List.take 16 (List.drop 1 (List.take 17 (List.take 18 (List.drop (0 + i.toNat * 18) B)))))[3]? = true then
 (if isIntV u8 (List.take 16 (List.drop 1 (List.take 17 (List.take 18 (List.drop (0 + i.toNat * 18) A)))))[4]? = true then
 (if isIntV u8 (List.take 16 (List.drop 1 (List.take 17 (List.take 18 (List.drop (0 + i.toNat * 18) B)))))[4]? = true then
 (if isIntV u8 (List.take 16 (List.drop 1 (List.take 17 (List.take 18 (List.drop (0 + i.toNat * 18) A)))))[5]? = true then
 (if isIntV u8 (List.take 16 (List.drop 1 (List.take 17 (List.take 18 (List.drop (0 + i.toNat * 18) B)))))[5]? = true then
 (if isIntV u8 (List.take 16 (List.drop 1 (List.take 17 (List.take 18 (List.drop (0 + i.toNat * 18) A)))))[6]? = true then
 (if isIntV u8 (List.take 16 (List.drop 1 (List.take 17 (List.take 18 (List.drop (0 + i.toNat * 18) B)))))[6]? = true then
 (if isIntV u8 (List.take 16 (List.drop 1 (List.take 17 (List.take 18 (List.drop (0 + i.toNat * 18) A)))))[7]? = true then
 (if isIntV u8 (List.take 16 (List.drop 1 (List.take 17 (List.take 18 (List.drop (0 + i.toNat * 18) B)))))[7]? = true then
 (if isIntV u8 (List.take 16 (List.drop 1 (List.take 17 (List.take 18 (List.drop (0 + i.toNat * 18) A)))))[8]? = true then
 (if isIntV u8 (List.take 16 (List.drop 1 (List.take 17 (List.take 18 (List.drop (0 + i.toNat * 18) B)))))[8]? = true then
 (if isIntV u8 (List.take 16 (List.drop 1 (List.take 17 (List.take 18 (List.drop (0 + i.toNat * 18) A)))))[9]? = true then
 (if isIntV u8 (List.take 16 (List.drop 1 (List.take 17 (List.take 18 (List.drop (0 + i.toNat * 18) B)))))[9]? = true then
 (if isIntV u8 (List.take 16 (List.drop 1 (List.take 17 (List.take 18 (List.drop (0 + i.toNat * 18) A)))))[10]? = true then
 (if isIntV u8 (List.take 16 (List.drop 1 (List.take 17 (List.take 18 (List.drop (0 + i.toNat * 18) B)))))[10]? = true then
 (if isIntV u8 (List.take 16 (List.drop 1 (List.take 17 (List.take 18 (List.drop (0 + i.toNat * 18) A)))))[11]? = true then
 (if isIntV u8 (List.take 16 (List.drop 1 (List.take 17 (List.take 18 (List.drop (0 + i.toNat * 18) B)))))[11]? = true then
 (if isIntV u8 (List.take 16 (List.drop 1 (List.take 17 (List.take 18 (List.drop (0 + i.toNat * 18) A)))))[12]? = true then
 (if isIntV u8 (List.take 16 (List.drop 1 (List.take 17 (List.take 18 (List.drop (0 + i.toNat * 18) B)))))[12]? = true then
 (if isIntV u8 (List.take 16 (List.drop 1 (List.take 17 (List.take 18 (List.drop (0 + i.toNat * 18) A)))))[13]? = true then
 (if isIntV u8 (List.take 16 (List.drop 1 (List.take 17 (List.take 18 (List.drop (0 + i.toNat * 18) B)))))[13]? = true then
 (if isIntV u8 (List.take 16 (List.drop 1 (List.take 17 (List.take 18 (List.drop (0 + i.toNat * 18) A)))))[14]? = true then
 (if isIntV u8 (List.take 16 (List.drop 1 (List.take 17 (List.take 18 (List.drop (0 + i.toNat * 18) B)))))[14]? = true then
 (if isIntV u8 (List.take 16 (List.drop 1 (List.take 17 (List.take 18 (List.drop (0 + i.toNat * 18) A)))))[15]? = true then
 (if isIntV u8 (List.take 16 (List.drop 1 (List.take 17 (List.take 18 (List.drop (0 + i.toNat * 18) B)))))[15]? = true then
 (if isIntV u16 (List.take 18 (List.drop (0 + i.toNat * 18) A))[17]? = true then
 (if isIntV u16 (List.take 18 (List.drop (0 + i.toNat * 18) B))[17]? = true then
 (if (!(boolV (List.take 17 (List.take 18 (List.drop (0 + i.toNat * 18) A)))[0]? == boolV (List.take 17 (List.take 18 (List.drop (0 + i.toNat * 18) B)))[0]? && (intV (List.take 16 (List.drop 1 (List.take 17 (List.take 18 (List.drop (0 + i.toNat * 18) A)))))[0]? == intV (List.take 16 (List.drop 1 (List.take 17 (List.take 18 (List.drop (0 + i.toNat * 18) B)))))[0]? && (intV (List.take 16 (List.drop 1 (List.take 17 (List.take 18 (List.drop (0 + i.toNat * 18) A)))))[1]? == intV (List.take 16 (List.drop 1 (List.take 17 (List.take 18 (List.drop (0 + i.toNat * 18) B)))))[1]? && (intV (List.take 16 (List.drop 1 (List.take 17 (List.take 18 (List.drop (0 + i.toNat * 18) A)))))[2]? == intV (List.take 16 (List.drop 1 (List.take 17 (List.take 18 (List.drop (0 + i.toNat * 18) B)))))[2]? && (intV (List.take 16 (List.drop 1 (List.take 17 (List.take 18 (List.drop (0 + i.toNat * 18) A)))))[3]? == intV (List.take 16 (List.drop 1 (List.take 17 (List.take 18 (List.drop (0 + i.toNat * 18) B)))))[3]? && (intV (List.take 16 (List.drop 1 (List.take 17 (List.take 18 (List.drop (0 + i.toNat * 18) A)))))[4]? == intV (List.take 16 (List.drop 1 (List.take 17 (List.take 18 (List.drop (0 + i.toNat * 18) B)))))[4]? && (intV (List.take 16 (List.drop 1 (List.take 17 (List.take 18 (List.drop (0 + i.toNat * 18) A)))))[5]? == intV (List.take 16 (List.drop 1 (List.take 17 (List.take 18 (List.drop (0 + i.toNat * 18) B)))))[5]? && (intV (List.take 16 (List.drop 1 (List.take 17 (List.take 18 (List.drop (0 + i.toNat * 18) A)))))[6]? == intV (List.take 16 (List.drop 1 (List.take 17 (List.take 18 (List.drop (0 + i.toNat * 18) B)))))[6]? && (intV (List.take 16 (List.drop 1 (List.take 17 (List.take 18 (List.drop (0 + i.toNat * 18) A)))))[7]? == intV (List.take 16 (List.drop 1 (List.take 17 (List.take 18 (List.drop (0 + i.toNat * 18) B)))))[7]? && (intV (List.take 16 (List.drop 1 (List.take 17 (List.take 18 (List.drop (0 + i.toNat * 18) A)))))[8]? == intV (List.take 16 (List.drop 1 (List.take 17 (List.take 18 (List.drop (0 + i.toNat * 18) B)))))[8]? && (intV (List.take 16 (List.drop 1 (List.take 17 (List.take 18 (List.drop (0 + i.toNat * 18) A)))))[9]? == intV (List.take 16 (List.drop 1 (List.take 17 (List.take 18 (List.drop (0 + i.toNat * 18) B)))))[9]? && (intV (List.take 16 (List.drop 1 (List.take 17 (List.take 18 (List.drop (0 + i.toNat * 18) A)))))[10]? == intV (List.take 16 (List.drop 1 (List.take 17 (List.take 18 (List.drop (0 + i.toNat * 18) B)))))[10]? && (intV (List.take 16 (List.drop 1 (List.take 17 (List.take 18 (List.drop (0 + i.toNat * 18) A)))))[11]? == intV (List.take 16 (List.drop 1 (List.take 17 (List.take 18 (List.drop (0 + i.toNat * 18) B)))))[11]? && (intV (List.take 16 (List.drop 1 (List.take 17 (List.take 18 (List.drop (0 + i.toNat * 18) A)))))[12]? == intV (List.take 16 (List.drop 1 (List.take 17 (List.take 18 (List.drop (0 + i.toNat * 18) B)))))[12]? && (intV (List.take 16 (List.drop 1 (List.take 17 (List.take 18 (List.drop (0 + i.toNat * 18) A)))))[13]? == intV (List.take 16 (List.drop 1 (List.take 17 (List.take 18 (List.drop (0 + i.toNat * 18) B)))))[13]? && (intV (List.take 16 (List.drop 1 (List.take 17 (List.take 18 (List.drop (0 + i.toNat * 18) A)))))[14]? == intV (List.take 16 (List.drop 1 (List.take 17 (List.take 18 (List.drop (0 + i.toNat * 18) B)))))[14]? && (intV (List.take 16 (List.drop 1 (List.take 17 (List.take 18 (List.drop (0 + i.toNat * 18) A)))))[15]? == intV (List.take 16 (List.drop 1 (List.take 17 (List.take 18 (List.drop (0 + i.toNat * 18) B)))))[15]? && true))))))))))))))) && true) && (intV (List.take 18 (List.drop (0 + i.toNat * 18) A))[17]? == intV (List.take 18 (List.drop (0 + i.toNat * 18) B))[17]? && true))) = true then
 some ((AEx.norm, [AV.sl (some (0, 0)) a 0 false, AV.sl (some (1, 0)) b 0 false, int i64 (i64.wrap (n + 1)), int i64 (i64.wrap (i + 1))], (hRma0 A B a b n i)))
 else none) else none) else none) else none) else none) else none) else none) else none) else none) else none) else none) else none) else none) else none) else none) else none) else none) else none) else none) else none) else none) else none) else none) else none) else none) else none) else none) else none) else none) else none) else none) else none) else none) else none) else none) else none) else none) else none) else none) else none) else none) else none) else none) else none) else none) else none) else none) := by
  kernel_rfl

noncomputable def hRmb0 (A B : List AV) (a b : Nat) (n i : Int) : AHeap := [ABlk.cells A 18 Md.far none, ABlk.cells B 18 Md.far none]
theorem nfRmb (A B : List AV) (a b : Nat) (n i : Int) :
 qround Try.prog [] 100 4 [(27, .bool true), (38, .bool false)] noT RML mRm (vRm a b n i) (hRm A B) =
 (if decide (i < (a : Int)) = true then
 (if decide (i < (b : Int)) = true then
 (if 0 ≤ i ∧ i < (a : Int) then
 (if 0 + i.toNat * 18 + 18 ≤ A.length then
 (if 0 ≤ i ∧ i < (b : Int) then
 (if 0 + i.toNat * 18 + 18 ≤ B.length then
 (if 17 ≤ (List.take 18 (List.drop (0 + i.toNat * 18) A)).length then
 (if 17 ≤ (List.take 18 (List.drop (0 + i.toNat * 18) B)).length then
 (if isBoolV (List.take 17 (List.take 18 (List.drop (0 + i.toNat * 18) A)))[0]? = true then
 (if isBoolV (List.take 17 (List.take 18 (List.drop (0 + i.toNat * 18) B)))[0]? = true then
 (if 17 ≤ (List.take 17 (List.take 18 (List.drop (0 + i.toNat * 18) A))).length then
 (if 17 ≤ (List.take 17 (List.take 18 (List.drop (0 + i.toNat * 18) B))).length then
 (if isIntV u8 (List.take 16 (List.drop 1 (List.take 17 (List.take 18 (List.drop (0 + i.toNat * 18) A)))))[0]? = true then
 (if isIntV u8 (List.take 16 (List.drop 1 (List.take 17 (List.take 18 (List.drop (0 + i.toNat * 18) B)))))[0]? = true then
 (if isIntV u8 (List.take 16 (List.drop 1 (List.take 17 (List.take 18 (List.drop (0 + i.toNat * 18) A)))))[1]? = true then
 (if isIntV u8 (List.take 16 (List.drop 1 (List.take 17 (List.take 18 (List.drop (0 + i.toNat * 18) B)))))[1]? = true then
 (if isIntV u8 (List.take 16 (List.drop 1 (List.take 17 (List.take 18 (List.drop (0 + i.toNat * 18) A)))))[2]? = true then
 (if isIntV u8 (List.take 16 (List.drop 1 (List.take 17 (List.take 18 (List.drop (0 + i.toNat * 18) B)))))[2]? = true then
 (if isIntV u8 (List.take 16 (List.drop 1 (List.take 17 (List.take 18 (List.drop (0 + i.toNat * 18) A)))))[3]? = true then
 (if isIntV u8 (List.take 16 (List.drop 1 (List.take 17 (List.take 18 (List.drop (0 + i.toNat * 18) B)))))[3]? = true then
 (if isIntV u8 (List.take 16 (List.drop 1 (List.take 17 (List.take 18 (List.drop (0 + i.toNat * 18) A)))))[4]? = true then
 (if isIntV u8 (List.take 16 (List.drop 1 (List.take 17 (List.take 18 (List.drop (0 + i.toNat * 18) B)))))[4]? = true then
 (if isIntV u8 (List.take 16 (List.drop 1 (List.take 17 (List.take 18 (List.drop (0 + i.toNat * 18) A)))))[5]? = true then
 (if isIntV u8 (List.take 16 (List.drop 1 (List.take 17 (List.take 18 (List.drop (0 + i.toNat * 18) B)))))[5]? = true then
 (if isIntV u8 (List.take 16 (List.drop 1 (List.take 17 (List.take 18 (List.drop (0 + i.toNat * 18) A)))))[6]? = true then
 (if isIntV u8 (List.take 16 (List.drop 1 (List.take 17 (List.take 18 (List.drop (0 + i.toNat * 18) B)))))[6]? = true then
 (if isIntV u8 (List.take 16 (List.drop 1 (List.take 17 (List.take 18 (List.drop (0 + i.toNat * 18) A)))))[7]? = true then
 (if isIntV u8 (List.take 16 (List.drop 1 (List.take 17 (List.take 18 (List.drop (0 + i.toNat * 18) B)))))[7]? = true then
 (if isIntV u8 (List.take 16 (List.drop 1 (List.take 17 (List.take 18 (List.drop (0 + i.toNat * 18) A)))))[8]? = true then
 (if isIntV u8 (List.take 16 (List.drop 1 (List.take 17 (List.take 18 (List.drop (0 + i.toNat * 18) B)))))[8]? = true then
 (if isIntV u8 (List.take 16 (List.drop 1 (List.take 17 (List.take 18 (List.drop (0 + i.toNat * 18) A)))))[9]? = true then
 (if isIntV u8 (List.take 16 (List.drop 1 (List.take 17 (List.take 18 (List.drop (0 + i.toNat * 18) B)))))[9]? = true then
 (if isIntV u8 (List.take 16 (List.drop 1 (List.take 17 (List.take 18 (List.drop (0 + i.toNat * 18) A)))))[10]? = true then
 (if isIntV u8 (List.take 16 (List.drop 1 (List.take 17 (List.take 18 (List.drop (0 + i.toNat * 18) B)))))[10]? = true then
 (if isIntV u8 (List.take 16 (List.drop 1 (List.take 17 (List.take 18 (List.drop (0 + i.toNat * 18) A)))))[11]? = true then
 (if isIntV u8 (List.take 16 (List.drop 1 (List.take 17 (List.take 18 (List.drop (0 + i.toNat * 18) B)))))[11]? = true then
 (if isIntV u8 (List.take 16 (List.drop 1 (List.take 17 (List.take 18 (List.drop (0 + i.toNat * 18) A)))))[12]? = true then
 (if isIntV u8 (List.take 16 (List.drop 1 (List.take 17 (List.take 18 (List.drop (0 + i.toNat * 18) B)))))[12]? = true then
 (if isIntV u8 (List.take 16 (List.drop 1 (List.take 17 (List.take 18 (List.drop (0 + i.toNat * 18) A)))))[13]? = true then
 (if isIntV u8 (List.take 16 (List.drop 1 (List.take 17 (List.take 18 (List.drop (0 + i.toNat * 18) B)))))[13]? = true then
 (if isIntV u8 (List.take 16 (List.drop 1 (List.take 17 (List.take 18 (List.drop (0 + i.toNat * 18) A)))))[14]? = true then
 (if isIntV u8 (List.take 16 (List.drop 1 (List.take 17 (List.take 18 (List.drop (0 + i.toNat * 18) B)))))[14]? = true then
 (if isIntV u8 (List.take 16 (List.drop 1 (List.take 17 (List.take 18 (List.drop (0 + i.toNat * 18) A)))))[15]? = true then
 (if isIntV u8 (List.take 16 (List.drop 1 (List.take 17 (List.take 18 (List.drop (0 + i.toNat * 18) B)))))[15]? = true then
 (if isIntV u16 (List.take 18 (List.drop (0 + i.toNat * 18) A))[17]? = true then
 (if isIntV u16 (List.take 18 (List.drop (0 + i.toNat * 18) B))[17]? = true then
 (if (!(boolV (List.take 17 (List.take 18 (List.drop (0 + i.toNat * 18) A)))[0]? == boolV (List.take 17 (List.take 18 (List.drop (0 + i.toNat * 18) B)))[0]? && (intV (List.take 16 (List.drop 1 (List.take 17 (List.take 18 (List.drop (0 + i.toNat * 18) A)))))[0]? == intV (List.take 16 (List.drop 1 (List.take 17 (List.take 18 (List.drop (0 + i.toNat * 18) B)))))[0]? && (intV (List.take 16 (List.drop 1 (List.take 17 (List.take 18 (List.drop (0 + i.toNat * 18) A)))))[1]? == intV (List.take 16 (List.drop 1 (List.take 17 (List.take 18 (List.drop (0 + i.toNat * 18) B)))))[1]? && (intV (List.take 16 (List.drop 1 (List.take 17 (List.take 18 (List.drop (0 + i.toNat * 18) A)))))[2]? == intV (List.take 16 (List.drop 1 (List.take 17 (List.take 18 (List.drop (0 + i.toNat * 18) B)))))[2]? && (intV (List.take 16 (List.drop 1 (List.take 17 (List.take 18 (List.drop (0 + i.toNat * 18) A)))))[3]? == intV (List.take 16 (List.drop 1 (List.take 17 (List.take 18 (List.drop (0 + i.toNat * 18) B)))))[3]? && (intV (List.take 16 (List.drop 1 (List.take 17 (List.take 18 (List.drop (0 + i.toNat * 18) A)))))[4]? == intV (List.take 16 (List.drop 1 (List.take 17 (List.take 18 (List.drop (0 + i.toNat * 18) B)))))[4]? && (intV (List.take 16 (List.drop 1 (List.take 17 (List.take 18 (List.drop (0 + i.toNat * 18) A)))))[5]? == intV (List.take 16 (List.drop 1 (List.take 17 (List.take 18 (List.drop (0 + i.toNat * 18) B)))))[5]? && (intV (List.take 16 (List.drop 1 (List.take 17 (List.take 18 (List.drop (0 + i.toNat * 18) A)))))[6]? == intV (List.take 16 (List.drop 1 (List.take 17 (List.take 18 (List.drop (0 + i.toNat * 18) B)))))[6]? && (intV (List.take 16 (List.drop 1 (List.take 17 (List.take 18 (List.drop (0 + i.toNat * 18) A)))))[7]? == intV (List.take 16 (List.drop 1 (List.take 17 (List.take 18 (List.drop (0 + i.toNat * 18) B)))))[7]? && (intV (List.take 16 (List.drop 1 (List.take 17 (List.take 18 (List.drop (0 + i.toNat * 18) A)))))[8]? == intV (List.take 16 (List.drop 1 (List.take 17 (List.take 18 (List.drop (0 + i.toNat * 18) B)))))[8]? && (intV (List.take 16 (List.drop 1 (List.take 17 (List.take 18 (List.drop (0 + i.toNat * 18) A)))))[9]? == intV (List.take 16 (List.drop 1 (List.take 17 (List.take 18 (List.drop (0 + i.toNat * 18) B)))))[9]? && (intV (List.take 16 (List.drop 1 (List.take 17 (List.take 18 (List.drop (0 + i.toNat * 18) A)))))[10]? == intV (List.take 16 (List.drop 1 (List.take 17 (List.take 18 (List.drop (0 + i.toNat * 18) B)))))[10]? && (intV (List.take 16 (List.drop 1 (List.take 17 (List.take 18 (List.drop (0 + i.toNat * 18) A)))))[11]? == intV (List.take 16 (List.drop 1 (List.take 17 (List.take 18 (List.drop (0 + i.toNat * 18) B)))))[11]? && (intV (List.take 16 (List.drop 1 (List.take 17 (List.take 18 (List.drop (0 + i.toNat * 18) A)))))[12]? == intV (List.take 16 (List.drop 1 (List.take 17 (List.take 18 (List.drop (0 + i.toNat * 18) B)))))[12]? && (intV (List.take 16 (List.drop 1 (List.take 17 (List.take 18 (List.drop (0 + i.toNat * 18) A)))))[13]? == intV (List.take 16 (List.drop 1 (List.take 17 (List.take 18 (List.drop (0 + i.toNat * 18) B)))))[13]? && (intV (List.take 16 (List.drop 1 (List.take 17 (List.take 18 (List.drop (0 + i.toNat * 18) A)))))[14]? == intV (List.take 16 (List.drop 1 (List.take 17 (List.take 18 (List.drop (0 + i.toNat * 18) B)))))[14]? && (intV (List.take 16 (List.drop 1 (List.take 17 (List.take 18 (List.drop (0 + i.toNat * 18) A)))))[15]? == intV (List.take 16 (List.drop 1 (List.take 17 (List.take 18 (List.drop (0 + i.toNat * 18) B)))))[15]? && true))))))))))))))) && true) && (intV (List.take 18 (List.drop (0 + i.toNat * 18) A))[17]? == intV (List.take 18 (List.drop (0 + i.toNat * 18) B))[17]? && true))) = false then
 some ((AEx.norm, [AV.sl (some (0, 0)) a 0 false, AV.sl (some (1, 0)) b 0 false, int i64 n, int i64 (i64.wrap (i + 1))], (hRmb0 A B a b n i)))
 else none) else none) else none) else none) else none) else none) else none) else none) else none) else none) else none) else none) else none) else none) else none) else none) else none) else none) else none) else none) else none) else none) else none) else none) else none) else none) else none) else none) else none) else none) else none) else none) else none) else none) else none) else none) else none) else none) else none) else none) else none) else none) else none) else none) else none) else none) else none) := by
  kernel_rfl

noncomputable def hRms0 (A B : List AV) (a b : Nat) (n i : Int) : AHeap := [ABlk.cells A 18 Md.far none, ABlk.cells B 18 Md.far none]
theorem nfRms (A B : List AV) (a b : Nat) (n i : Int) :
 qround Try.prog [] 100 4 [(27, .bool false)] noT RML mRm (vRm a b n i) (hRm A B) =
 (if decide (i < (a : Int)) = true then
 (if decide (i < (b : Int)) = false then
 some ((AEx.exit 0, [AV.sl (some (0, 0)) a 0 false, AV.sl (some (1, 0)) b 0 false, int i64 n, int i64 i], (hRms0 A B a b n i)))
 else none)
 else some ((AEx.exit 0, [AV.sl (some (0, 0)) a 0 false, AV.sl (some (1, 0)) b 0 false, int i64 n, int i64 i], (hRms0 A B a b n i)))) := by
  kernel_rfl

noncomputable def hRm0 (q : Prop) (A B : List AV) (a b : Nat) (n0 n i : Int) : AHeap := [ABlk.cells A 18 Md.far none, ABlk.cells B 18 Md.far none]
theorem nfRm {R : Type} (q : Prop) (A B : List AV) (a b : Nat) (n0 n i : Int) (K : AV → AHeap → Option R) :
 qrun Try.prog [] 100 4 [] [(3, fixC q mRm (vRm a b n0 0) (hRm A B) (.exit 0) (vRm a b n i) (hRm A B))] 19 [.sl (some (0, 0)) a 0 false, .sl (some (1, 0)) b 0 false] (hRm A B) K =
 (if cdec (q ∧ [AV.sl (some (0, 0)) a 0 false, AV.sl (some (1, 0)) b 0 false, int i64 (i64.wrap ((if true = true then if (b : Int) > (a : Int) then (b : Int) else (a : Int) else if (b : Int) < (a : Int) then (b : Int) else (a : Int)) - if false = true then if (b : Int) > (a : Int) then (b : Int) else (a : Int) else if (b : Int) < (a : Int) then (b : Int) else (a : Int))), int i64 0] = [AV.sl (some (0, 0)) a 0 false, AV.sl (some (1, 0)) b 0 false, int i64 n0, int i64 0] ∧ (hRm0 q A B a b n0 n i) = (hRm0 q A B a b n0 n i)) = true then
 K (int i64 n) ((hRm0 q A B a b n0 n i))
 else none) := by
  kernel_rfl

noncomputable def hDpa0 (A B : List AV) (a b : Nat) (i : Int) : AHeap := [ABlk.cells A 18 Md.far none, ABlk.cells B 18 Md.far none]
theorem nfDpa (A B : List AV) (a b : Nat) (i : Int) :
 qround Try.prog [] 100 4 [(14, .bool true), (25, .bool false)] noT DPL mDp (vDp a b false i) (hRm A B) =
 (if decide (i < (a : Int)) = true then
 (if 0 ≤ i ∧ i < (a : Int) then
 (if 0 + i.toNat * 18 + 18 ≤ A.length then
 (if 0 ≤ i ∧ i < (b : Int) then
 (if 0 + i.toNat * 18 + 18 ≤ B.length then
 (if 17 ≤ (List.take 18 (List.drop (0 + i.toNat * 18) A)).length then
 (if 17 ≤ (List.take 18 (List.drop (0 + i.toNat * 18) B)).length then
 (if isBoolV (List.take 17 (List.take 18 (List.drop (0 + i.toNat * 18) A)))[0]? = true then
 (if isBoolV (List.take 17 (List.take 18 (List.drop (0 + i.toNat * 18) B)))[0]? = true then
 (if 17 ≤ (List.take 17 (List.take 18 (List.drop (0 + i.toNat * 18) A))).length then
 (if 17 ≤ (List.take 17 (List.take 18 (List.drop (0 + i.toNat * 18) B))).length then
 (if isIntV u8 (List.take 16 (List.drop 1 (List.take 17 (List.take 18 (List.drop (0 + i.toNat * 18) A)))))[0]? = true then
 (if isIntV u8 (List.take 16 (List.drop 1 (List.take 17 (List.take 18 (List.drop (0 + i.toNat * 18) B)))))[0]? = true then
 (if isIntV u8 (List.take 16 (List.drop 1 (List.take 17 (List.take 18 (List.drop (0 + i.toNat * 18) A)))))[1]? = true then
 (if isIntV u8 (List.take 16 (List.drop 1 (List.take 17 (List.take 18 (List.drop (0 + i.toNat * 18) B)))))[1]? = true then
 (if isIntV u8 (List.take 16 (List.drop 1 (List.take 17 (List.take 18 (List.drop (0 + i.toNat * 18) A)))))[2]? = true then
 (if isIntV u8 (List.take 16 (List.drop 1 (List.take 17 (List.take 18 (List.drop (0 + i.toNat * 18) B)))))[2]? = true then
 (if isIntV u8 (List.take 16 (List.drop 1 (List.take 17 (List.take 18 (List.drop (0 + i.toNat * 18) A)))))[3]? = true then
 (if isIntV u8 (List.take 16 (List.drop 1 (List.take 17 (List.take 18 (List.drop (0 + i.toNat * 18) B)))))[3]? = true then
 (if isIntV u8 (List.take 16 (List.drop 1 (List.take 17 (List.take 18 (List.drop (0 + i.toNat * 18) A)))))[4]? = true then
 (if isIntV u8 (List.take 16 (List.drop 1 (List.take 17 (List.take 18 (List.drop (0 + i.toNat * 18) B)))))[4]? = true then
 (if isIntV u8 (List.take 16 (List.drop 1 (List.take 17 (List.take 18 (List.drop (0 + i.toNat * 18) A)))))[5]? = true then
 (if isIntV u8 (List.take 16 (List.drop 1 (List.take 17 (List.take 18 (List.drop (0 + i.toNat * 18) B)))))[5]? = true then
 (if isIntV u8 (List.take 16 (List.drop 1 (List.take 17 (List.take 18 (List.drop (0 + i.toNat * 18) A)))))[6]? = true then
 (if isIntV u8 (List.take 16 (List.drop 1 (List.take 17 (List.take 18 (List.drop (0 + i.toNat * 18) B)))))[6]? = true then
 (if isIntV u8 (List.take 16 (List.drop 1 (List.take 17 (List.take 18 (List.drop (0 + i.toNat * 18) A)))))[7]? = true then
 (if isIntV u8 (List.take 16 (List.drop 1 (List.take 17 (List.take 18 (List.drop (0 + i.toNat * 18) B)))))[7]? = true then
 (if isIntV u8 (List.take 16 (List.drop 1 (List.take 17 (List.take 18 (List.drop (0 + i.toNat * 18) A)))))[8]? = true then
 (if isIntV u8 (List.take 16 (List.drop 1 (List.take 17 (List.take 18 (List.drop (0 + i.toNat * 18) B)))))[8]? = true then
 (if isIntV u8 (List.take 16 (List.drop 1 (List.take 17 (List.take 18 (List.drop (0 + i.toNat * 18) A)))))[9]? = true then
 (if isIntV u8 (List.take 16 (List.drop 1 (List.take 17 (List.take 18 (List.drop (0 + i.toNat * 18) B)))))[9]? = true then
 (if isIntV u8 (List.take 16 (List.drop 1 (List.take 17 (List.take 18 (List.drop (0 + i.toNat * 18) A)))))[10]? = true then
 (if isIntV u8 (List.take 16 (List.drop 1 (List.take 17 (List.take 18 (List.drop (0 + i.toNat * 18) B)))))[10]? = true then
 (if isIntV u8 (List.take 16 (List.drop 1 (List.take 17 (List.take 18 (List.drop (0 + i.toNat * 18) A)))))[11]? = true then
 (if isIntV u8 (List.take 16 (List.drop 1 (List.take 17 (List.take 18 (List.drop (0 + i.toNat * 18) B)))))[11]? = true then
 (if isIntV u8 (List.take 16 (List.drop 1 (List.take 17 (List.take 18 (List.drop (0 + i.toNat * 18) A)))))[12]? = true then
 (if isIntV u8 (List.take 16 (List.drop 1 (List.take 17 (List.take 18 (List.drop (0 + i.toNat * 18) B)))))[12]? = true then
 (if isIntV u8 (List.take 16 (List.drop 1 (List.take 17 (List.take 18 (List.drop (0 + i.toNat * 18) A)))))[13]? = true then
 (if isIntV u8 (List.take 16 (List.drop 1 (List.take 17 (List.take 18 (List.drop (0 + i.toNat * 18) B)))))[13]? = true then
 (if isIntV u8 (List.take 16 (List.drop 1 (List.take 17 (List.take 18 (List.drop (0 + i.toNat * 18) A)))))[14]? = true then
 (if isIntV u8 (List.take 16 (List.drop 1 (List.take 17 (List.take 18 (List.drop (0 + i.toNat * 18) B)))))[14]? = true then
 (if isIntV u8 (List.take 16 (List.drop 1 (List.take 17 (List.take 18 (List.drop (0 + i.toNat * 18) A)))))[15]? = true then
 (if isIntV u8 (List.take 16 (List.drop 1 (List.take 17 (List.take 18 (List.drop (0 + i.toNat * 18) B)))))[15]? = true then
 (if isIntV u16 (List.take 18 (List.drop (0 + i.toNat * 18) A))[17]? = true then
 (if isIntV u16 (List.take 18 (List.drop (0 + i.toNat * 18) B))[17]? = true then
 (if (!(boolV (List.take 17 (List.take 18 (List.drop (0 + i.toNat * 18) A)))[0]? == boolV (List.take 17 (List.take 18 (List.drop (0 + i.toNat * 18) B)))[0]? && (intV (List.take 16 (List.drop 1 (List.take 17 (List.take 18 (List.drop (0 + i.toNat * 18) A)))))[0]? == intV (List.take 16 (List.drop 1 (List.take 17 (List.take 18 (List.drop (0 + i.toNat * 18) B)))))[0]? && (intV (List.take 16 (List.drop 1 (List.take 17 (List.take 18 (List.drop (0 + i.toNat * 18) A)))))[1]? == intV (List.take 16 (List.drop 1 (List.take 17 (List.take 18 (List.drop (0 + i.toNat * 18) B)))))[1]? && (intV (List.take 16 (List.drop 1 (List.take 17 (List.take 18 (List.drop (0 + i.toNat * 18) A)))))[2]? == intV (List.take 16 (List.drop 1 (List.take 17 (List.take 18 (List.drop (0 + i.toNat * 18) B)))))[2]? && (intV (List.take 16 (List.drop 1 (List.take 17 (List.take 18 (List.drop (0 + i.toNat * 18) A)))))[3]? == intV (List.take 16 (List.drop 1 (List.take 17 (List.take 18 (List.drop (0 + i.toNat * 18) B)))))[3]? && (intV (List.take 16 (List.drop 1 (List.take 17 (List.take 18 (List.drop (0 + i.toNat * 18) A)))))[4]? == intV (List.take 16 (List.drop 1 (List.take 17 (List.take 18 (List.drop (0 + i.toNat * 18) B)))))[4]? && (intV (List.take 16 (List.drop 1 (List.take 17 (List.take 18 (List.drop (0 + i.toNat * 18) A)))))[5]? == intV (List.take 16 (List.drop 1 (List.take 17 (List.take 18 (List.drop (0 + i.toNat * 18) B)))))[5]? && (intV (List.take 16 (List.drop 1 (List.take 17 (List.take 18 (List.drop (0 + i.toNat * 18) A)))))[6]? == intV (List.take 16 (List.drop 1 (List.take 17 (List.take 18 (List.drop (0 + i.toNat * 18) B)))))[6]? && (intV (List.take 16 (List.drop 1 (List.take 17 (List.take 18 (List.drop (0 + i.toNat * 18) A)))))[7]? == intV (List.take 16 (List.drop 1 (List.take 17 (List.take 18 (List.drop (0 + i.toNat * 18) B)))))[7]? && (intV (List.take 16 (List.drop 1 (List.take 17 (List.take 18 (List.drop (0 + i.toNat * 18) A)))))[8]? == intV (List.take 16 (List.drop 1 (List.take 17 (List.take 18 (List.drop (0 + i.toNat * 18) B)))))[8]? && (intV (List.take 16 (List.drop 1 (List.take 17 (List.take 18 (List.drop (0 + i.toNat * 18) A)))))[9]? == intV (List.take 16 (List.drop 1 (List.take 17 (List.take 18 (List.drop (0 + i.toNat * 18) B)))))[9]? && (intV (List.take 16 (List.drop 1 (List.take 17 (List.take 18 (List.drop (0 + i.toNat * 18) A)))))[10]? == intV (List.take 16 (List.drop 1 (List.take 17 (List.take 18 (List.drop (0 + i.toNat * 18) B)))))[10]? && (intV (List.take 16 (List.drop 1 (List.take 17 (List.take 18 (List.drop (0 + i.toNat * 18) A)))))[11]? == intV (List.take 16 (List.drop 1 (List.take 17 (List.take 18 (List.drop (0 + i.toNat * 18) B)))))[11]? && (intV (List.take 16 (List.drop 1 (List.take 17 (List.take 18 (List.drop (0 + i.toNat * 18) A)))))[12]? == intV (List.take 16 (List.drop 1 (List.take 17 (List.take 18 (List.drop (0 + i.toNat * 18) B)))))[12]? && (intV (List.take 16 (List.drop 1 (List.take 17 (List.take 18 (List.drop (0 + i.toNat * 18) A)))))[13]? == intV (List.take 16 (List.drop 1 (List.take 17 (List.take 18 (List.drop (0 + i.toNat * 18) B)))))[13]? && (intV (List.take 16 (List.drop 1 (List.take 17 (List.take 18 (List.drop (0 + i.toNat * 18) A)))))[14]? == intV (List.take 16 (List.drop 1 (List.take 17 (List.take 18 (List.drop (0 + i.toNat * 18) B)))))[14]? && (intV (List.take 16 (List.drop 1 (List.take 17 (List.take 18 (List.drop (0 + i.toNat * 18) A)))))[15]? == intV (List.take 16 (List.drop 1 (List.take 17 (List.take 18 (List.drop (0 + i.toNat * 18) B)))))[15]? && true))))))))))))))) && true) && (intV (List.take 18 (List.drop (0 + i.toNat * 18) A))[17]? == intV (List.take 18 (List.drop (0 + i.toNat * 18) B))[17]? && true))) = false then
 some ((AEx.norm, [AV.sl (some (0, 0)) a 0 false, AV.sl (some (1, 0)) b 0 false, AV.bool false, int i64 (i64.wrap (i + 1))], (hDpa0 A B a b i)))
 else none) else none) else none) else none) else none) else none) else none) else none) else none) else none) else none) else none) else none) else none) else none) else none) else none) else none) else none) else none) else none) else none) else none) else none) else none) else none) else none) else none) else none) else none) else none) else none) else none) else none) else none) else none) else none) else none) else none) else none) else none) else none) else none) else none) else none) else none) := by
  kernel_rfl

noncomputable def hDps0 (A B : List AV) (a b : Nat) (i : Int) : AHeap := [ABlk.cells A 18 Md.far none, ABlk.cells B 18 Md.far none]
theorem nfDps (A B : List AV) (a b : Nat) (i : Int) :
 qround Try.prog [] 100 4 [(14, .bool false)] noT DPL mDp (vDp a b false i) (hRm A B) =
 (if decide (i < (a : Int)) = false then
 some ((AEx.exit 0, [AV.sl (some (0, 0)) a 0 false, AV.sl (some (1, 0)) b 0 false, AV.bool false, int i64 i], (hDps0 A B a b i)))
 else none) := by
  kernel_rfl

noncomputable def hDp0 (q : Prop) (A B : List AV) (a b : Nat) (i : Int) : AHeap := [ABlk.cells A 18 Md.far none, ABlk.cells B 18 Md.far none]
theorem nfDp {R : Type} (q : Prop) (A B : List AV) (a b : Nat) (i : Int) (K : AV → AHeap → Option R) :
 qrun Try.prog [] 100 4 [(10, .bool false)] [(4, fixC q mDp (vDp a b false 0) (hRm A B) (.exit 0) (vDp a b false i) (hRm A B))] 17 [.sl (some (0, 0)) a 0 false, .sl (some (1, 0)) b 0 false] (hRm A B) K =
 (if ((a : Int) != (b : Int)) = false then
 (if cdec (q ∧ [AV.sl (some (0, 0)) a 0 false, AV.sl (some (1, 0)) b 0 false, AV.bool false, int i64 0] = [AV.sl (some (0, 0)) a 0 false, AV.sl (some (1, 0)) b 0 false, AV.bool false, int i64 0] ∧ (hDp0 q A B a b i) = (hDp0 q A B a b i)) = true then
 K (AV.bool true) ((hDp0 q A B a b i))
 else none) else none) := by
  kernel_rfl

end Go.Proofs.Ytlppbeoiphglcaa.L
