/- The part ahead of what follows, of another kind: the program's With and the reference's. -/
import Derived.Test.YtjkkhbeidhpghaaOctB
set_option autoImplicit false
set_option maxRecDepth 100000
set_option linter.unusedVariables false
set_option linter.unusedSimpArgs false
namespace Go.Proofs.Ytjkkhbeidhpghaa.L
open Go Go.Abs

def netT (k : IntKind) (a w r : Int) : AV := .tup [.int .i64 a, .int k w, .int .i64 r]

noncomputable def tWith (b : List UInt8) (a w r : Int) : Tbl := [(31, fixE [slB 0 b] [farB b] (netT .u16 a w r) [farB b]), (43, entF eClone)]
noncomputable def hWith140 (b : List UInt8) (k w : Int) : AHeap := [ABlk.cells (bys b) 1 Md.far none]
noncomputable def hWith141 (b : List UInt8) (k w : Int) : AHeap := [ABlk.cells (bys b) 1 Md.far none, ABlk.cells (bys (bOf (hWith140 b k w) (AV.sl (some (0, 0)) 14 (roomOf b.length 0 0 false 14 false) false))) 1 Md.own none]
noncomputable def hWith142 (b : List UInt8) (k w : Int) : AHeap := [ABlk.cells (bys b) 1 Md.far none, ABlk.cells (putCells (putCells (bys (bOf (hWith140 b k w) (AV.sl (some (0, 0)) 14 (roomOf b.length 0 0 false 14 false) false))) 13 [AV.int IntKind.u8 (IntKind.u8.wrap (IntKind.u64.wrap k))]) 12 [AV.int IntKind.u8 (IntKind.u8.wrap ((IntKind.u64.wrap k).fdiv 256))]) 1 Md.own none]
theorem nfWith14 {R : Type} (b : List UInt8) (k w : Int) (K : AV → AHeap → Option R) :
 abody Try.prog (deepC Try.prog (tWith b 14 w 0) 100 4) (mixLS [] (autoLS Try.prog (deepC Try.prog (tWith b 14 w 0) 100 4) 100 4 (bodyOf Try.prog 30))) 30 [slB 0 b, .int .u16 k] [farB b] K =
 (if cdec ([AV.sl (some (0, 0)) b.length 0 false] = [AV.sl (some (0, 0)) b.length 0 false] ∧ (hWith140 b k w) = (hWith140 b k w)) = true then
 (if Int.ofNat 0 ≤ Int.ofNat 14 ∧ 14 ≤ (((capOf b.length 0 false) : Nat) : Int) then
 (if (bOk (hWith140 b k w) (AV.sl (some (0, 0)) 14 (roomOf b.length 0 0 false 14 false) false) && decide (nOf (AV.sl (some (0, 0)) 14 (roomOf b.length 0 0 false 14 false) false) ≤ 1000000000000)) = true then
 (if decide (12 ≤ (((bOf (hWith140 b k w) (AV.sl (some (0, 0)) 14 (roomOf b.length 0 0 false 14 false) false)).length : Nat) : Int)) = true then
 (if (!decide (IntKind.i64.wrap ((((bOf (hWith140 b k w) (AV.sl (some (0, 0)) 14 (roomOf b.length 0 0 false 14 false) false)).length : Nat) : Int) - 12) ≥ 2)) = true then
 K (AV.sl (some (1, 0)) (bOf (hWith140 b k w) (AV.sl (some (0, 0)) 14 (roomOf b.length 0 0 false 14 false) false)).length 0 false) ((hWith141 b k w))
 else (if Int.ofNat 0 ≤ Int.ofNat 13 ∧ 13 < (((bOf (hWith140 b k w) (AV.sl (some (0, 0)) 14 (roomOf b.length 0 0 false 14 false) false)).length : Nat) : Int) then
 (if 13 + [AV.int IntKind.u8 (IntKind.u8.wrap (IntKind.u64.wrap k))].length ≤ (bys (bOf (hWith140 b k w) (AV.sl (some (0, 0)) 14 (roomOf b.length 0 0 false 14 false) false))).length ∧ [AV.int IntKind.u8 (IntKind.u8.wrap (IntKind.u64.wrap k))].all AV.isCell = true then
 (if Int.ofNat 0 ≤ Int.ofNat 12 ∧ 12 < (((bOf (hWith140 b k w) (AV.sl (some (0, 0)) 14 (roomOf b.length 0 0 false 14 false) false)).length : Nat) : Int) then
 (if 12 + [AV.int IntKind.u8 (IntKind.u8.wrap ((IntKind.u64.wrap k).fdiv 256))].length ≤ (putCells (bys (bOf (hWith140 b k w) (AV.sl (some (0, 0)) 14 (roomOf b.length 0 0 false 14 false) false))) 13 [AV.int IntKind.u8 (IntKind.u8.wrap (IntKind.u64.wrap k))]).length ∧ [AV.int IntKind.u8 (IntKind.u8.wrap ((IntKind.u64.wrap k).fdiv 256))].all AV.isCell = true then
 K (AV.sl (some (1, 0)) (bOf (hWith140 b k w) (AV.sl (some (0, 0)) 14 (roomOf b.length 0 0 false 14 false) false)).length 0 false) ((hWith142 b k w))
 else none) else none) else none) else none))
 else K (AV.sl (some (1, 0)) (bOf (hWith140 b k w) (AV.sl (some (0, 0)) 14 (roomOf b.length 0 0 false 14 false) false)).length 0 false) ((hWith141 b k w)))
 else none) else none) else none) := by
  kernel_rfl

noncomputable def hWith180 (b : List UInt8) (k w : Int) : AHeap := [ABlk.cells (bys b) 1 Md.far none]
noncomputable def hWith181 (b : List UInt8) (k w : Int) : AHeap := [ABlk.cells (bys b) 1 Md.far none, ABlk.cells (bys (bOf (hWith180 b k w) (AV.sl (some (0, 0)) 18 (roomOf b.length 0 0 false 18 false) false))) 1 Md.own none]
noncomputable def hWith182 (b : List UInt8) (k w : Int) : AHeap := [ABlk.cells (bys b) 1 Md.far none, ABlk.cells (putCells (putCells (bys (bOf (hWith180 b k w) (AV.sl (some (0, 0)) 18 (roomOf b.length 0 0 false 18 false) false))) 17 [AV.int IntKind.u8 (IntKind.u8.wrap (IntKind.u64.wrap k))]) 16 [AV.int IntKind.u8 (IntKind.u8.wrap ((IntKind.u64.wrap k).fdiv 256))]) 1 Md.own none]
theorem nfWith18 {R : Type} (b : List UInt8) (k w : Int) (K : AV → AHeap → Option R) :
 abody Try.prog (deepC Try.prog (tWith b 18 w 0) 100 4) (mixLS [] (autoLS Try.prog (deepC Try.prog (tWith b 18 w 0) 100 4) 100 4 (bodyOf Try.prog 30))) 30 [slB 0 b, .int .u16 k] [farB b] K =
 (if cdec ([AV.sl (some (0, 0)) b.length 0 false] = [AV.sl (some (0, 0)) b.length 0 false] ∧ (hWith180 b k w) = (hWith180 b k w)) = true then
 (if Int.ofNat 0 ≤ Int.ofNat 18 ∧ 18 ≤ (((capOf b.length 0 false) : Nat) : Int) then
 (if (bOk (hWith180 b k w) (AV.sl (some (0, 0)) 18 (roomOf b.length 0 0 false 18 false) false) && decide (nOf (AV.sl (some (0, 0)) 18 (roomOf b.length 0 0 false 18 false) false) ≤ 1000000000000)) = true then
 (if decide (16 ≤ (((bOf (hWith180 b k w) (AV.sl (some (0, 0)) 18 (roomOf b.length 0 0 false 18 false) false)).length : Nat) : Int)) = true then
 (if (!decide (IntKind.i64.wrap ((((bOf (hWith180 b k w) (AV.sl (some (0, 0)) 18 (roomOf b.length 0 0 false 18 false) false)).length : Nat) : Int) - 16) ≥ 2)) = true then
 K (AV.sl (some (1, 0)) (bOf (hWith180 b k w) (AV.sl (some (0, 0)) 18 (roomOf b.length 0 0 false 18 false) false)).length 0 false) ((hWith181 b k w))
 else (if Int.ofNat 0 ≤ Int.ofNat 17 ∧ 17 < (((bOf (hWith180 b k w) (AV.sl (some (0, 0)) 18 (roomOf b.length 0 0 false 18 false) false)).length : Nat) : Int) then
 (if 17 + [AV.int IntKind.u8 (IntKind.u8.wrap (IntKind.u64.wrap k))].length ≤ (bys (bOf (hWith180 b k w) (AV.sl (some (0, 0)) 18 (roomOf b.length 0 0 false 18 false) false))).length ∧ [AV.int IntKind.u8 (IntKind.u8.wrap (IntKind.u64.wrap k))].all AV.isCell = true then
 (if Int.ofNat 0 ≤ Int.ofNat 16 ∧ 16 < (((bOf (hWith180 b k w) (AV.sl (some (0, 0)) 18 (roomOf b.length 0 0 false 18 false) false)).length : Nat) : Int) then
 (if 16 + [AV.int IntKind.u8 (IntKind.u8.wrap ((IntKind.u64.wrap k).fdiv 256))].length ≤ (putCells (bys (bOf (hWith180 b k w) (AV.sl (some (0, 0)) 18 (roomOf b.length 0 0 false 18 false) false))) 17 [AV.int IntKind.u8 (IntKind.u8.wrap (IntKind.u64.wrap k))]).length ∧ [AV.int IntKind.u8 (IntKind.u8.wrap ((IntKind.u64.wrap k).fdiv 256))].all AV.isCell = true then
 K (AV.sl (some (1, 0)) (bOf (hWith180 b k w) (AV.sl (some (0, 0)) 18 (roomOf b.length 0 0 false 18 false) false)).length 0 false) ((hWith182 b k w))
 else none) else none) else none) else none))
 else K (AV.sl (some (1, 0)) (bOf (hWith180 b k w) (AV.sl (some (0, 0)) 18 (roomOf b.length 0 0 false 18 false) false)).length 0 false) ((hWith181 b k w)))
 else none) else none) else none) := by
  kernel_rfl

noncomputable def hWith00 (b : List UInt8) (k a w r : Int) : AHeap := [ABlk.cells (bys b) 1 Md.far none]
theorem nfWith0 {R : Type} (b : List UInt8) (k a w r : Int) (K : AV → AHeap → Option R) :
 abody Try.prog (deepC Try.prog (tWith b a w r) 0 4) (mixLS [] (autoLS Try.prog (deepC Try.prog (tWith b a w r) 0 4) 0 4 (bodyOf Try.prog 30))) 30 [slB 0 b, .int .u16 k] [farB b] K =
 (if cdec ([AV.sl (some (0, 0)) b.length 0 false] = [AV.sl (some (0, 0)) b.length 0 false] ∧ (hWith00 b k a w r) = (hWith00 b k a w r)) = true then
 (if (r != 0) = true then
 K (AV.sl none 0 0 true) ((hWith00 b k a w r))
 else (if 0 ≤ a ∧ a ≤ (((capOf b.length 0 false) : Nat) : Int) then
 (if (bOk (hWith00 b k a w r) (AV.sl (some (0, 0)) (a.toNat - 0) (roomOf b.length 0 0 (some a).isNone a.toNat false) false) && decide (nOf (AV.sl (some (0, 0)) (a.toNat - 0) (roomOf b.length 0 0 (some a).isNone a.toNat false) false) ≤ 1000000000000)) = true then
 none
 else none) else none))
 else none) := by
  kernel_rfl

def withR (b : List UInt8) (k : Int) : List UInt8 := if (netR b).2.2 = 0 then b.take ((netR b).1.toNat - 2) ++ [u8i (k.fdiv 256), u8i k] else []

def eWith : GEnt := fun args h => match args with
  | [b, .int .u16 k] => some (bOk h b && decide (nOf b ≤ 1000000000 ∧ 0 ≤ k ∧ k < 65536), slB h.length (withR (bOf h b) k), h ++ [ownB (withR (bOf h b) k)])
  | _ => none
theorem take_set2 {b : List UInt8} {n : Nat} (h : n + 2 ≤ b.length) (x y : UInt8) : ((b.take (n + 2)).set n x).set (n + 1) y = b.take n ++ [x, y] := by
  have e : b.take (n + 2) = b.take n ++ [b[n], b[n + 1]] := by
    rw [show n + 2 = n + 1 + 1 by rfl, List.take_add_one, List.take_add_one, List.getElem?_eq_getElem (by omega), List.getElem?_eq_getElem (by omega)]
    show (b.take n ++ [b[n]]) ++ [b[n + 1]] = _
    rw [List.append_assoc]; rfl
  have hl : (b.take n).length = n := by simp; omega
  rw [e, List.set_append_right _ _ (by omega), hl, Nat.sub_self, List.set_append_right _ _ (by omega), hl]
  simp
theorem take_set2' {b : List UInt8} {n : Nat} (h : n + 2 ≤ b.length) (x y : UInt8) : ((b.take (n + 2)).set (n + 1) y).set n x = b.take n ++ [x, y] := by
  rw [List.set_comm _ _ (by omega), take_set2 h]

theorem runsE {f : FuncId} {g : GEnt} (hs : SoundE Try.prog f (entF g)) {args : List AV} {h : AHeap} {v : AV} {h' : AHeap} (hg : g args h = some (true, v, h')) : Runs Try.prog f args h v h' := by
  refine ⟨entF g, hs, ?_⟩
  show eRun g args h (fun v h => some (v, h)) = some (v, h')
  unfold eRun
  rw [hg]
  rfl

theorem runsNet {b : List UInt8} (hb : b.length ≤ 70368744177664) {a w r : Int} (h : netR b = (a, w, r)) : Runs Try.prog 31 [slB 0 b] [farB b] (netT .u16 a w r) [farB b] := by
  refine runsE sNet ?_
  have g := bOk_far (h := [farB b]) (k := 0) (l := b) rfl
  simp only [eNet]
  rw [g.1, g.2, h]
  rw [show nOf (slB 0 b) = b.length from rfl]
  simp [hb]; rfl
theorem with14 {b : List UInt8} {k w : Int} (hk : 0 ≤ k ∧ k < 65536) (hb : b.length ≤ 1000000000) (h14 : 14 ≤ b.length) {R : Type} (K : AV → AHeap → Option R) :
    abody Try.prog (deepC Try.prog (tWith b 14 w 0) 100 4) (mixLS [] (autoLS Try.prog (deepC Try.prog (tWith b 14 w 0) 100 4) 100 4 (bodyOf Try.prog 30))) 30 [slB 0 b, .int .u16 k] [farB b] K = K (slB 1 (b.take 12 ++ [u8i (k.fdiv 256), u8i k])) [farB b, ownB (b.take 12 ++ [u8i (k.fdiv 256), u8i k])] := by
  rw [nfWith14]
  have g := bOk_part (h := hWith140 b k w) (k := 0) (o := 0) (n := 14) (r := roomOf b.length 0 0 false 14 false) (e := false) (l := b) rfl rfl (by omega)
  rw [List.drop_zero] at g
  have hl : (b.take 14).length = 14 := by simp; omega
  have hl2 : (b.take 12).length = 12 := by simp; omega
  have wk : IntKind.u64.wrap k = k := wrapU64 (by omega)
  have ht := take_set2' (b := b) (n := 12) (by omega) (u8i (k.fdiv 256)) (u8i k)
  have hh : hWith142 b k w = [farB b, ownB (b.take 12 ++ [u8i (k.fdiv 256), u8i k])] := by
    unfold hWith142
    rw [g.2, wk, putCells_byte, putCells_byte, ht]
  rw [g.2, hl, hh]
  refine (if_pos (cdec_true.2 ⟨rfl, rfl⟩)).trans ?_
  refine (if_pos ⟨by decide, by simp only [capOf]; omega⟩).trans ?_
  refine (if_pos (by rw [g.1]; rfl)).trans ?_
  refine (if_pos (by simp)).trans ?_
  refine (if_neg (by decide)).trans ?_
  refine (if_pos (by simp)).trans ?_
  repeat (first | (refine (if_pos ?_).trans ?_; · first | omega | (simp [hl] <;> done) | (simp [*] <;> omega)))
  simp [slB, hl2]

theorem with18 {b : List UInt8} {k w : Int} (hk : 0 ≤ k ∧ k < 65536) (hb : b.length ≤ 1000000000) (h18 : 18 ≤ b.length) {R : Type} (K : AV → AHeap → Option R) :
    abody Try.prog (deepC Try.prog (tWith b 18 w 0) 100 4) (mixLS [] (autoLS Try.prog (deepC Try.prog (tWith b 18 w 0) 100 4) 100 4 (bodyOf Try.prog 30))) 30 [slB 0 b, .int .u16 k] [farB b] K = K (slB 1 (b.take 16 ++ [u8i (k.fdiv 256), u8i k])) [farB b, ownB (b.take 16 ++ [u8i (k.fdiv 256), u8i k])] := by
  rw [nfWith18]
  have g := bOk_part (h := hWith180 b k w) (k := 0) (o := 0) (n := 18) (r := roomOf b.length 0 0 false 18 false) (e := false) (l := b) rfl rfl (by omega)
  rw [List.drop_zero] at g
  have hl : (b.take 18).length = 18 := by simp; omega
  have hl2 : (b.take 16).length = 16 := by simp; omega
  have wk : IntKind.u64.wrap k = k := wrapU64 (by omega)
  have ht := take_set2' (b := b) (n := 16) (by omega) (u8i (k.fdiv 256)) (u8i k)
  have hh : hWith182 b k w = [farB b, ownB (b.take 16 ++ [u8i (k.fdiv 256), u8i k])] := by
    unfold hWith182
    rw [g.2, wk, putCells_byte, putCells_byte, ht]
  rw [g.2, hl, hh]
  refine (if_pos (cdec_true.2 ⟨rfl, rfl⟩)).trans ?_
  refine (if_pos ⟨by decide, by simp only [capOf]; omega⟩).trans ?_
  refine (if_pos (by rw [g.1]; rfl)).trans ?_
  refine (if_pos (by simp)).trans ?_
  refine (if_neg (by decide)).trans ?_
  refine (if_pos (by simp)).trans ?_
  repeat (first | (refine (if_pos ?_).trans ?_; · first | omega | (simp [hl] <;> done) | (simp [*] <;> omega)))
  simp [slB, hl2]

theorem netR_split (b : List UInt8) : (∃ w, netR b = (14, w, 0) ∧ 14 ≤ b.length) ∨ (∃ w, netR b = (18, w, 0) ∧ 18 ≤ b.length) ∨ ∃ a w r, netR b = (a, w, r) ∧ r ≠ 0 := by
  unfold netR netW
  repeat' split
  · exact .inr (.inr ⟨_, _, _, rfl, by decide⟩)
  · exact .inr (.inr ⟨_, _, _, rfl, by decide⟩)
  · exact .inr (.inr ⟨_, _, _, rfl, by decide⟩)
  · exact .inr (.inl ⟨_, rfl, by omega⟩)
  · exact .inr (.inr ⟨_, _, _, rfl, by decide⟩)
  · exact .inl ⟨_, rfl, by omega⟩

theorem sWith : SoundE Try.prog 30 (entF eWith) := by
  refine canonR_sound fun args h v h' hg => ?_
  unfold eWith at hg
  split at hg
  · rename_i b k
    simp only [Option.some.injEq, Prod.mk.injEq, Bool.and_eq_true, decide_eq_true_eq] at hg
    obtain ⟨⟨hb, hn, hk⟩, rfl, rfl⟩ := hg
    refine ⟨[slB 0 (bOf h b), .int .u16 k], [farB (bOf h b)], .cons _ _ _ _ _ _ _ (bOk_canon hb 0) (.cons _ _ _ _ _ _ _ (.flat _ _ rfl) (.nil _)), ?_⟩
    rw [← bOk_len hb] at hn
    generalize bOf h b = l at hn
    have hl : l.length ≤ 70368744177664 := by omega
    rcases netR_split l with ⟨w, hw, h14⟩ | ⟨w, hw, h18⟩ | ⟨a, w, r, hw, hr⟩
    · refine ⟨_, _, Runs.of0 (t := tWith l _ _ _) (find_cons (fixE_sound (runsNet hl hw)) (find_cons sClone (find_nil _))) (F := 100) (n := 4) (with14 hk hn h14 _), [some 1], [ownB (withR l k)], rfl, ?_, ksOk1 _⟩
      rw [withR, hw]
      exact denB (by simp) rfl rfl rfl
    · refine ⟨_, _, Runs.of0 (t := tWith l _ _ _) (find_cons (fixE_sound (runsNet hl hw)) (find_cons sClone (find_nil _))) (F := 100) (n := 4) (with18 hk hn h18 _), [some 1], [ownB (withR l k)], rfl, ?_, ksOk1 _⟩
      rw [withR, hw]
      exact denB (by simp) rfl rfl rfl
    · refine ⟨.sl none 0 0 true, [farB l], Runs.of0 (t := tWith l _ _ _) (find_cons (fixE_sound (runsNet hl hw)) (find_cons sClone (find_nil _))) (F := 0) (n := 4) ?_, [none], [ownB (withR l k)], rfl, ?_, ksOk1 _⟩
      · rw [nfWith0, if_pos (cdec_true.2 ⟨rfl, rfl⟩), if_pos (by simp [hr])]; rfl
      · rw [withR, hw, if_neg (by simpa using hr)]
        exact denB0
  · simp at hg


end Go.Proofs.Ytjkkhbeidhpghaa.L
