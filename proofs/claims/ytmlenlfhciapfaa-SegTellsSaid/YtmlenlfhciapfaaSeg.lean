/- seg's Read, and the reference's ReadSeg. -/
import Derived.Test.YtmlenlfhciapfaaOct
import Derived.Test.YtmlenlfhciapfaaBe16
import Derived.Test.YtmlenlfhciapfaaSegKit
import Derived.Test.YtmlenlfhciapfaaLawKit
set_option autoImplicit false
set_option maxRecDepth 100000
set_option linter.unusedVariables false
set_option linter.unusedSimpArgs false
namespace Go.Proofs.Ytmlenlfhciapfaa.L
open Go Go.Abs

/-- A word that is there. -/
noncomputable def eW16 : GEnt := fun args h => match args with
  | [b, .int .i64 p] => some (bOk h b && decide ((nOf b : Int) < 9223372036854775000 ∧ 0 ≤ p ∧ p + 2 ≤ (nOf b : Int)), .tup [.int .u16 (word (bOf h b) p.toNat), .bool true], h)
  | _ => none
theorem sW16 : SoundE Try.prog 22 (entF eW16) := by
  refine entF_sound sGet16 fun args hp v h' hg => ?_
  unfold eW16 at hg
  split at hg
  · rename_i b p
    simp only [Option.some.injEq, Prod.mk.injEq, Bool.and_eq_true, decide_eq_true_eq] at hg
    obtain ⟨⟨hb, hn, h0, h1⟩, rfl, rfl⟩ := hg
    have hl := bOk_len hb
    change eRun eGet16 [b, .int .i64 p] hp (fun v h => some (v, h)) = _
    show (if (bOk hp b && decide ((nOf b : Int) < 9223372036854775000)) = true then some (getR .u16 2 (bOf hp b) p, hp) else none) = _
    rw [hb, decide_eq_true hn]
    have e : getR .u16 2 (bOf hp b) p = .tup [.int .u16 (word (bOf hp b) p.toNat), .bool true] := by
      unfold getR
      have hc : (0 ≤ p ∧ p + ((2 : Nat) : Int) ≤ ((bOf hp b).length : Int)) := ⟨h0, by rw [hl]; exact h1⟩
      rw [if_pos hc, decide_eq_true hc, numAt_two (by omega)]
    rw [e]; rfl
  · simp at hg

noncomputable def tSeg : Tbl := [(22, entF eW16)]
theorem tSegOk : ∀ f E, tSeg.find f = some E → SoundE Try.prog f E := find_cons sW16 (find_nil _)
noncomputable def tRSeg : Tbl := [(23, entF eBe16)]
theorem tRSegOk : ∀ f E, tRSeg.find f = some E → SoundE Try.prog f E := find_cons sBe16 (find_nil _)

noncomputable def hSegT0 (l : List UInt8) : AHeap := [ABlk.cells (bys l) 1 Md.far none, ABlk.cells [AV.int IntKind.u16 0, AV.int IntKind.u16 0, AV.int IntKind.u8 0] 3 Md.own none]
noncomputable def hSegT1 (l : List UInt8) : AHeap := [ABlk.cells (bys l) 1 Md.far none, ABlk.cells [AV.int IntKind.u16 (word (bOf (hSegT0 l) (AV.sl (some (0, 0)) l.length 0 false)) 0), AV.int IntKind.u16 0, AV.int IntKind.u8 0] 3 Md.own none]
theorem nfSegT {R : Type} (l : List UInt8) (K : AV → Option R) :
    qrun Try.prog tSeg 100 4 [] [] 10 [.int .u8 6, slB 0 l] [farB l] (fun v _ => K v) =
    (if decide ((l.length : Int) < 20) = true then
      K (AV.tup [AV.agg [AV.int IntKind.u16 0, AV.int IntKind.u16 0, AV.int IntKind.u8 0], AV.int IntKind.i64 1])
    else (if Int.ofNat 0 ≤ Int.ofNat 12 ∧ 12 < (l.length : Int) then
        (if isIntV IntKind.u8 (bys l)[12]? = true then
          (if decide (IntKind.i64.wrap (IntKind.i64.wrap ((intV (bys l)[12]?).fdiv 16) * 4) < 20) = true then
            K (AV.tup [AV.agg [AV.int IntKind.u16 0, AV.int IntKind.u16 0, AV.int IntKind.u8 0], AV.int IntKind.i64 3])
          else (if decide (IntKind.i64.wrap (IntKind.i64.wrap ((intV (bys l)[12]?).fdiv 16) * 4) > (l.length : Int)) = true then
              K (AV.tup [AV.agg [AV.int IntKind.u16 0, AV.int IntKind.u16 0, AV.int IntKind.u8 0], AV.int IntKind.i64 3])
            else (if (bOk (hSegT0 l) (AV.sl (some (0, 0)) l.length 0 false) && decide ((((nOf (AV.sl (some (0, 0)) l.length 0 false)) : Nat) : Int) < 9223372036854775000 ∧ Int.ofNat 0 ≤ Int.ofNat 0 ∧ 2 ≤ (((nOf (AV.sl (some (0, 0)) l.length 0 false)) : Nat) : Int))) = true then
                (if (bOk (hSegT1 l) (AV.sl (some (0, 0)) l.length 0 false) && decide ((((nOf (AV.sl (some (0, 0)) l.length 0 false)) : Nat) : Int) < 9223372036854775000 ∧ Int.ofNat 0 ≤ Int.ofNat 2 ∧ 4 ≤ (((nOf (AV.sl (some (0, 0)) l.length 0 false)) : Nat) : Int))) = true then
                  (if Int.ofNat 0 ≤ Int.ofNat 13 ∧ 13 < (l.length : Int) then
                    (if isIntV IntKind.u8 (bys l)[13]? = true then
                      K (AV.tup [AV.agg [AV.int IntKind.u16 (word (bOf (hSegT0 l) (AV.sl (some (0, 0)) l.length 0 false)) 0), AV.int IntKind.u16 (word (bOf (hSegT1 l) (AV.sl (some (0, 0)) l.length 0 false)) 2), AV.int IntKind.u8 (intV (bys l)[13]?)], AV.int IntKind.i64 0])
                    else none)
                  else none)
                else none)
              else none)))
        else none)
      else none)) := by
  kernel_rfl

noncomputable def hSegU0 (l : List UInt8) : AHeap := [ABlk.cells (bys l) 1 Md.far none, ABlk.cells [AV.int IntKind.u16 0, AV.int IntKind.u16 0, AV.int IntKind.u8 0] 3 Md.own none]
noncomputable def hSegU1 (l : List UInt8) : AHeap := [ABlk.cells (bys l) 1 Md.far none, ABlk.cells [AV.int IntKind.u16 (word (bOf (hSegU0 l) (AV.sl (some (0, 0)) l.length 0 false)) 0), AV.int IntKind.u16 0, AV.int IntKind.u8 0] 3 Md.own none]
theorem nfSegU {R : Type} (l : List UInt8) (K : AV → Option R) :
    qrun Try.prog tSeg 100 4 [] [] 10 [.int .u8 17, slB 0 l] [farB l] (fun v _ => K v) =
    (if decide ((l.length : Int) < 8) = true then
      K (AV.tup [AV.agg [AV.int IntKind.u16 0, AV.int IntKind.u16 0, AV.int IntKind.u8 0], AV.int IntKind.i64 1])
    else (if (bOk (hSegU0 l) (AV.sl (some (0, 0)) l.length 0 false) && decide ((((nOf (AV.sl (some (0, 0)) l.length 0 false)) : Nat) : Int) < 9223372036854775000 ∧ Int.ofNat 0 ≤ Int.ofNat 4 ∧ 6 ≤ (((nOf (AV.sl (some (0, 0)) l.length 0 false)) : Nat) : Int))) = true then
        (if decide (IntKind.i64.wrap (word (bOf (hSegU0 l) (AV.sl (some (0, 0)) l.length 0 false)) 4) < 8) = true then
          K (AV.tup [AV.agg [AV.int IntKind.u16 0, AV.int IntKind.u16 0, AV.int IntKind.u8 0], AV.int IntKind.i64 3])
        else (if decide (IntKind.i64.wrap (word (bOf (hSegU0 l) (AV.sl (some (0, 0)) l.length 0 false)) 4) > (l.length : Int)) = true then
            K (AV.tup [AV.agg [AV.int IntKind.u16 0, AV.int IntKind.u16 0, AV.int IntKind.u8 0], AV.int IntKind.i64 3])
          else (if (bOk (hSegU0 l) (AV.sl (some (0, 0)) l.length 0 false) && decide ((((nOf (AV.sl (some (0, 0)) l.length 0 false)) : Nat) : Int) < 9223372036854775000 ∧ Int.ofNat 0 ≤ Int.ofNat 0 ∧ 2 ≤ (((nOf (AV.sl (some (0, 0)) l.length 0 false)) : Nat) : Int))) = true then
              (if (bOk (hSegU1 l) (AV.sl (some (0, 0)) l.length 0 false) && decide ((((nOf (AV.sl (some (0, 0)) l.length 0 false)) : Nat) : Int) < 9223372036854775000 ∧ Int.ofNat 0 ≤ Int.ofNat 2 ∧ 4 ≤ (((nOf (AV.sl (some (0, 0)) l.length 0 false)) : Nat) : Int))) = true then
                K (AV.tup [AV.agg [AV.int IntKind.u16 (word (bOf (hSegU0 l) (AV.sl (some (0, 0)) l.length 0 false)) 0), AV.int IntKind.u16 (word (bOf (hSegU1 l) (AV.sl (some (0, 0)) l.length 0 false)) 2), AV.int IntKind.u8 0], AV.int IntKind.i64 0])
              else none)
            else none)))
      else none)) := by
  kernel_rfl

theorem nfSegN {R : Type} (p : Int) (l : List UInt8) (K : AV → Option R) :
    qrun Try.prog tSeg 100 4 [(10, .bool false), (12, .bool false)] [] 10 [.int .u8 p, slB 0 l] [farB l] (fun v _ => K v) =
    (if (p == 6) = false then
      (if (p == 17) = false then
        K (AV.tup [AV.agg [AV.int IntKind.u16 0, AV.int IntKind.u16 0, AV.int IntKind.u8 0], AV.int IntKind.i64 6])
      else none)
    else none) := by
  kernel_rfl

noncomputable def hRSegT0 (l : List UInt8) : AHeap := [ABlk.cells (bys l) 1 Md.far none, ABlk.cells [AV.int IntKind.i64 0, AV.int IntKind.i64 0, AV.int IntKind.u8 0] 3 Md.own none]
theorem nfRSegT {R : Type} (l : List UInt8) (K : AV → Option R) :
    qrun Try.prog tRSeg 100 4 [] [] 11 [.int .u8 6, slB 0 l] [farB l] (fun v _ => K v) =
    (if decide ((l.length : Int) < 20) = true then
      K (AV.tup [AV.agg [AV.int IntKind.i64 0, AV.int IntKind.i64 0, AV.int IntKind.u8 0], AV.int IntKind.i64 1])
    else (if Int.ofNat 0 ≤ Int.ofNat 12 ∧ 12 < (l.length : Int) then
        (if isIntV IntKind.u8 (bys l)[12]? = true then
          (if decide (IntKind.i64.wrap (IntKind.i64.wrap ((intV (bys l)[12]?).fdiv 16) * 4) < 20) = true then
            K (AV.tup [AV.agg [AV.int IntKind.i64 0, AV.int IntKind.i64 0, AV.int IntKind.u8 0], AV.int IntKind.i64 3])
          else (if decide ((l.length : Int) < IntKind.i64.wrap (IntKind.i64.wrap ((intV (bys l)[12]?).fdiv 16) * 4)) = true then
              K (AV.tup [AV.agg [AV.int IntKind.i64 0, AV.int IntKind.i64 0, AV.int IntKind.u8 0], AV.int IntKind.i64 3])
            else (if (bOk (hRSegT0 l) (AV.sl (some (0, 0)) l.length 0 false) && decide (nOf (AV.sl (some (0, 0)) l.length 0 false) ≤ 70368744177664 ∧ Int.ofNat 0 ≤ Int.ofNat 0 ∧ 2 ≤ (((nOf (AV.sl (some (0, 0)) l.length 0 false)) : Nat) : Int))) = true then
                (if (bOk (hRSegT0 l) (AV.sl (some (0, 0)) l.length 0 false) && decide (nOf (AV.sl (some (0, 0)) l.length 0 false) ≤ 70368744177664 ∧ Int.ofNat 0 ≤ Int.ofNat 2 ∧ 4 ≤ (((nOf (AV.sl (some (0, 0)) l.length 0 false)) : Nat) : Int))) = true then
                  (if Int.ofNat 0 ≤ Int.ofNat 13 ∧ 13 < (l.length : Int) then
                    (if isIntV IntKind.u8 (bys l)[13]? = true then
                      (if isIntV IntKind.u8 (bys l)[13]? = true then
                        (if (AV.int IntKind.u8 (intV (bys l)[13]?)).beq (AV.int IntKind.u8 (intV (bys l)[13]?)) = true then
                          (if isIntV IntKind.u8 (bys l)[13]? = true then
                            (if (AV.int IntKind.u8 (intV (bys l)[13]?)).beq (AV.int IntKind.u8 (intV (bys l)[13]?)) = true then
                              K (AV.tup [AV.agg [AV.int IntKind.i64 (word (bOf (hRSegT0 l) (AV.sl (some (0, 0)) l.length 0 false)) 0), AV.int IntKind.i64 (word (bOf (hRSegT0 l) (AV.sl (some (0, 0)) l.length 0 false)) 2), AV.int IntKind.u8 (intV (bys l)[13]?)], AV.int IntKind.i64 0])
                            else none)
                          else none)
                        else none)
                      else none)
                    else none)
                  else none)
                else none)
              else none)))
        else none)
      else none)) := by
  kernel_rfl

noncomputable def hRSegU0 (l : List UInt8) : AHeap := [ABlk.cells (bys l) 1 Md.far none, ABlk.cells [AV.int IntKind.i64 0, AV.int IntKind.i64 0, AV.int IntKind.u8 0] 3 Md.own none]
theorem nfRSegU {R : Type} (l : List UInt8) (K : AV → Option R) :
    qrun Try.prog tRSeg 100 4 [] [] 11 [.int .u8 17, slB 0 l] [farB l] (fun v _ => K v) =
    (if decide ((l.length : Int) < 8) = true then
      K (AV.tup [AV.agg [AV.int IntKind.i64 0, AV.int IntKind.i64 0, AV.int IntKind.u8 0], AV.int IntKind.i64 1])
    else (if (bOk (hRSegU0 l) (AV.sl (some (0, 0)) l.length 0 false) && decide (nOf (AV.sl (some (0, 0)) l.length 0 false) ≤ 70368744177664 ∧ Int.ofNat 0 ≤ Int.ofNat 4 ∧ 6 ≤ (((nOf (AV.sl (some (0, 0)) l.length 0 false)) : Nat) : Int))) = true then
        (if decide (word (bOf (hRSegU0 l) (AV.sl (some (0, 0)) l.length 0 false)) 4 < 8) = true then
          K (AV.tup [AV.agg [AV.int IntKind.i64 0, AV.int IntKind.i64 0, AV.int IntKind.u8 0], AV.int IntKind.i64 3])
        else (if decide ((l.length : Int) < word (bOf (hRSegU0 l) (AV.sl (some (0, 0)) l.length 0 false)) 4) = true then
            K (AV.tup [AV.agg [AV.int IntKind.i64 0, AV.int IntKind.i64 0, AV.int IntKind.u8 0], AV.int IntKind.i64 3])
          else (if (bOk (hRSegU0 l) (AV.sl (some (0, 0)) l.length 0 false) && decide (nOf (AV.sl (some (0, 0)) l.length 0 false) ≤ 70368744177664 ∧ Int.ofNat 0 ≤ Int.ofNat 0 ∧ 2 ≤ (((nOf (AV.sl (some (0, 0)) l.length 0 false)) : Nat) : Int))) = true then
              (if (bOk (hRSegU0 l) (AV.sl (some (0, 0)) l.length 0 false) && decide (nOf (AV.sl (some (0, 0)) l.length 0 false) ≤ 70368744177664 ∧ Int.ofNat 0 ≤ Int.ofNat 2 ∧ 4 ≤ (((nOf (AV.sl (some (0, 0)) l.length 0 false)) : Nat) : Int))) = true then
                K (AV.tup [AV.agg [AV.int IntKind.i64 (word (bOf (hRSegU0 l) (AV.sl (some (0, 0)) l.length 0 false)) 0), AV.int IntKind.i64 (word (bOf (hRSegU0 l) (AV.sl (some (0, 0)) l.length 0 false)) 2), AV.int IntKind.u8 0], AV.int IntKind.i64 0])
              else none)
            else none)))
      else none)) := by
  kernel_rfl

theorem nfRSegN {R : Type} (p : Int) (l : List UInt8) (K : AV → Option R) :
    qrun Try.prog tRSeg 100 4 [(9, .bool false), (38, .bool false)] [] 11 [.int .u8 p, slB 0 l] [farB l] (fun v _ => K v) =
    (if (p == 6) = false then
      (if (p == 17) = false then
        K (AV.tup [AV.agg [AV.int IntKind.i64 0, AV.int IntKind.i64 0, AV.int IntKind.u8 0], AV.int IntKind.i64 6])
      else none)
    else none) := by
  kernel_rfl


/-! ### Walks -/

set_option maxHeartbeats 2000000 in
theorem walkSegT (l : List UInt8) (hl : l.length ≤ 1000000000000) : qrun Try.prog tSeg 100 4 [] [] 10 [.int .u8 6, slB 0 l] [farB l] (fun v _ => some v) = some (segRead 6 l) := by
  rw [nfSegT]
  simp only [hSegT0, hSegT1, ↓Bool.and_eq_true, ↓decide_eq_true_eq, bOk, bOf, rowOk, rowOf, nOf_sl, List.getElem?_cons_zero, List.getElem?_cons_succ, Nat.zero_add, Nat.mul_one, Nat.add_zero, List.drop_zero, bys_drop, bys_take, bys_byteD, bys_isByteR, List.take_length, bys_length, intV_some, isIntV_byte, intV_byte, bys_get, beq_int, Bool.and_true, Bool.true_and, AV.beq_self, fdiv16s]
  have hb := byt_range l 12
  have hw := word_range l 4
  have w1 : IntKind.i64.wrap (byt l 12 / 16) = byt l 12 / 16 := wrapI64 (by omega)
  have w2 : IntKind.i64.wrap (byt l 12 / 16 * 4) = byt l 12 / 16 * 4 := wrapI64 (by omega)
  have w3 : IntKind.i64.wrap (word l 4) = word l 4 := wrapI64 (by omega)
  try simp only [w1, w2, w3]
  by_cases h1 : l.length < 20
  · have hr : segR 6 l = 1 := by unfold segR; rw [if_pos rfl, if_pos h1]
    repeat (first | (refine (if_pos ?_).trans ?_; · first | exact True.intro | omega | (simp [capOf]; done) | (simp [capOf]; omega)) | (refine (if_neg ?_).trans ?_; · first | omega | (simp; done) | (simp; omega)))
    simp [segRead, segZ, segF, hr]
  by_cases h2 : byt l 12 / 16 * 4 < 20
  · have hr : segR 6 l = 3 := by unfold segR; rw [if_pos rfl, if_neg h1, if_pos h2]
    repeat (first | (refine (if_pos ?_).trans ?_; · first | exact True.intro | omega | (simp [capOf]; done) | (simp [capOf]; omega)) | (refine (if_neg ?_).trans ?_; · first | omega | (simp; done) | (simp; omega)))
    simp [segRead, segZ, segF, hr]
  by_cases h3 : (l.length : Int) < byt l 12 / 16 * 4
  · have hr : segR 6 l = 3 := by unfold segR; rw [if_pos rfl, if_neg h1, if_neg h2, if_pos h3]
    repeat (first | (refine (if_pos ?_).trans ?_; · first | exact True.intro | omega | (simp [capOf]; done) | (simp [capOf]; omega)) | (refine (if_neg ?_).trans ?_; · first | omega | (simp; done) | (simp; omega)))
    simp [segRead, segZ, segF, hr]
  have hr : segR 6 l = 0 := by unfold segR; rw [if_pos rfl, if_neg h1, if_neg h2, if_neg h3]
  repeat (first | (refine (if_pos ?_).trans ?_; · first | exact True.intro | omega | (simp [capOf]; done) | (simp [capOf]; omega)) | (refine (if_neg ?_).trans ?_; · first | omega | (simp; done) | (simp; omega)))
  simp [segRead, segZ, segF, hr]

set_option maxHeartbeats 2000000 in
theorem walkSegU (l : List UInt8) (hl : l.length ≤ 1000000000000) : qrun Try.prog tSeg 100 4 [] [] 10 [.int .u8 17, slB 0 l] [farB l] (fun v _ => some v) = some (segRead 17 l) := by
  rw [nfSegU]
  simp only [hSegU0, hSegU1, ↓Bool.and_eq_true, ↓decide_eq_true_eq, bOk, bOf, rowOk, rowOf, nOf_sl, List.getElem?_cons_zero, List.getElem?_cons_succ, Nat.zero_add, Nat.mul_one, Nat.add_zero, List.drop_zero, bys_drop, bys_take, bys_byteD, bys_isByteR, List.take_length, bys_length, intV_some, isIntV_byte, intV_byte, bys_get, beq_int, Bool.and_true, Bool.true_and, AV.beq_self, fdiv16s]
  have hb := byt_range l 12
  have hw := word_range l 4
  have w1 : IntKind.i64.wrap (byt l 12 / 16) = byt l 12 / 16 := wrapI64 (by omega)
  have w2 : IntKind.i64.wrap (byt l 12 / 16 * 4) = byt l 12 / 16 * 4 := wrapI64 (by omega)
  have w3 : IntKind.i64.wrap (word l 4) = word l 4 := wrapI64 (by omega)
  try simp only [w1, w2, w3]
  by_cases h1 : l.length < 8
  · have hr : segR 17 l = 1 := by unfold segR; rw [if_neg (by decide), if_pos rfl, if_pos h1]
    repeat (first | (refine (if_pos ?_).trans ?_; · first | exact True.intro | omega | (simp [capOf]; done) | (simp [capOf]; omega)) | (refine (if_neg ?_).trans ?_; · first | omega | (simp; done) | (simp; omega)))
    simp [segRead, segZ, segF, hr]
  by_cases h2 : word l 4 < 8
  · have hr : segR 17 l = 3 := by unfold segR; rw [if_neg (by decide), if_pos rfl, if_neg h1, if_pos h2]
    repeat (first | (refine (if_pos ?_).trans ?_; · first | exact True.intro | omega | (simp [capOf]; done) | (simp [capOf]; omega)) | (refine (if_neg ?_).trans ?_; · first | omega | (simp; done) | (simp; omega)))
    simp [segRead, segZ, segF, hr]
  by_cases h3 : (l.length : Int) < word l 4
  · have hr : segR 17 l = 3 := by unfold segR; rw [if_neg (by decide), if_pos rfl, if_neg h1, if_neg h2, if_pos h3]
    repeat (first | (refine (if_pos ?_).trans ?_; · first | exact True.intro | omega | (simp [capOf]; done) | (simp [capOf]; omega)) | (refine (if_neg ?_).trans ?_; · first | omega | (simp; done) | (simp; omega)))
    simp [segRead, segZ, segF, hr]
  have hr : segR 17 l = 0 := by unfold segR; rw [if_neg (by decide), if_pos rfl, if_neg h1, if_neg h2, if_neg h3]
  repeat (first | (refine (if_pos ?_).trans ?_; · first | exact True.intro | omega | (simp [capOf]; done) | (simp [capOf]; omega)) | (refine (if_neg ?_).trans ?_; · first | omega | (simp; done) | (simp; omega)))
  simp [segRead, segZ, segF, hr]

set_option maxHeartbeats 2000000 in
theorem walkRSegT (l : List UInt8) (hl : l.length ≤ 1000000000000) : qrun Try.prog tRSeg 100 4 [] [] 11 [.int .u8 6, slB 0 l] [farB l] (fun v _ => some v) = some (segRRead 6 l) := by
  rw [nfRSegT]
  simp only [hRSegT0, ↓Bool.and_eq_true, ↓decide_eq_true_eq, bOk, bOf, rowOk, rowOf, nOf_sl, List.getElem?_cons_zero, List.getElem?_cons_succ, Nat.zero_add, Nat.mul_one, Nat.add_zero, List.drop_zero, bys_drop, bys_take, bys_byteD, bys_isByteR, List.take_length, bys_length, intV_some, isIntV_byte, intV_byte, bys_get, beq_int, Bool.and_true, Bool.true_and, AV.beq_self, fdiv16s]
  have hb := byt_range l 12
  have hw := word_range l 4
  have w1 : IntKind.i64.wrap (byt l 12 / 16) = byt l 12 / 16 := wrapI64 (by omega)
  have w2 : IntKind.i64.wrap (byt l 12 / 16 * 4) = byt l 12 / 16 * 4 := wrapI64 (by omega)
  have w3 : IntKind.i64.wrap (word l 4) = word l 4 := wrapI64 (by omega)
  try simp only [w1, w2, w3]
  by_cases h1 : l.length < 20
  · have hr : segR 6 l = 1 := by unfold segR; rw [if_pos rfl, if_pos h1]
    repeat (first | (refine (if_pos ?_).trans ?_; · first | exact True.intro | omega | (simp [capOf]; done) | (simp [capOf]; omega)) | (refine (if_neg ?_).trans ?_; · first | omega | (simp; done) | (simp; omega)))
    simp [segRRead, segZ, segF, hr]
  by_cases h2 : byt l 12 / 16 * 4 < 20
  · have hr : segR 6 l = 3 := by unfold segR; rw [if_pos rfl, if_neg h1, if_pos h2]
    repeat (first | (refine (if_pos ?_).trans ?_; · first | exact True.intro | omega | (simp [capOf]; done) | (simp [capOf]; omega)) | (refine (if_neg ?_).trans ?_; · first | omega | (simp; done) | (simp; omega)))
    simp [segRRead, segZ, segF, hr]
  by_cases h3 : (l.length : Int) < byt l 12 / 16 * 4
  · have hr : segR 6 l = 3 := by unfold segR; rw [if_pos rfl, if_neg h1, if_neg h2, if_pos h3]
    repeat (first | (refine (if_pos ?_).trans ?_; · first | exact True.intro | omega | (simp [capOf]; done) | (simp [capOf]; omega)) | (refine (if_neg ?_).trans ?_; · first | omega | (simp; done) | (simp; omega)))
    simp [segRRead, segZ, segF, hr]
  have hr : segR 6 l = 0 := by unfold segR; rw [if_pos rfl, if_neg h1, if_neg h2, if_neg h3]
  repeat (first | (refine (if_pos ?_).trans ?_; · first | exact True.intro | omega | (simp [capOf]; done) | (simp [capOf]; omega)) | (refine (if_neg ?_).trans ?_; · first | omega | (simp; done) | (simp; omega)))
  simp [segRRead, segZ, segF, hr]

set_option maxHeartbeats 2000000 in
theorem walkRSegU (l : List UInt8) (hl : l.length ≤ 1000000000000) : qrun Try.prog tRSeg 100 4 [] [] 11 [.int .u8 17, slB 0 l] [farB l] (fun v _ => some v) = some (segRRead 17 l) := by
  rw [nfRSegU]
  simp only [hRSegU0, ↓Bool.and_eq_true, ↓decide_eq_true_eq, bOk, bOf, rowOk, rowOf, nOf_sl, List.getElem?_cons_zero, List.getElem?_cons_succ, Nat.zero_add, Nat.mul_one, Nat.add_zero, List.drop_zero, bys_drop, bys_take, bys_byteD, bys_isByteR, List.take_length, bys_length, intV_some, isIntV_byte, intV_byte, bys_get, beq_int, Bool.and_true, Bool.true_and, AV.beq_self, fdiv16s]
  have hb := byt_range l 12
  have hw := word_range l 4
  have w1 : IntKind.i64.wrap (byt l 12 / 16) = byt l 12 / 16 := wrapI64 (by omega)
  have w2 : IntKind.i64.wrap (byt l 12 / 16 * 4) = byt l 12 / 16 * 4 := wrapI64 (by omega)
  have w3 : IntKind.i64.wrap (word l 4) = word l 4 := wrapI64 (by omega)
  try simp only [w1, w2, w3]
  by_cases h1 : l.length < 8
  · have hr : segR 17 l = 1 := by unfold segR; rw [if_neg (by decide), if_pos rfl, if_pos h1]
    repeat (first | (refine (if_pos ?_).trans ?_; · first | exact True.intro | omega | (simp [capOf]; done) | (simp [capOf]; omega)) | (refine (if_neg ?_).trans ?_; · first | omega | (simp; done) | (simp; omega)))
    simp [segRRead, segZ, segF, hr]
  by_cases h2 : word l 4 < 8
  · have hr : segR 17 l = 3 := by unfold segR; rw [if_neg (by decide), if_pos rfl, if_neg h1, if_pos h2]
    repeat (first | (refine (if_pos ?_).trans ?_; · first | exact True.intro | omega | (simp [capOf]; done) | (simp [capOf]; omega)) | (refine (if_neg ?_).trans ?_; · first | omega | (simp; done) | (simp; omega)))
    simp [segRRead, segZ, segF, hr]
  by_cases h3 : (l.length : Int) < word l 4
  · have hr : segR 17 l = 3 := by unfold segR; rw [if_neg (by decide), if_pos rfl, if_neg h1, if_neg h2, if_pos h3]
    repeat (first | (refine (if_pos ?_).trans ?_; · first | exact True.intro | omega | (simp [capOf]; done) | (simp [capOf]; omega)) | (refine (if_neg ?_).trans ?_; · first | omega | (simp; done) | (simp; omega)))
    simp [segRRead, segZ, segF, hr]
  have hr : segR 17 l = 0 := by unfold segR; rw [if_neg (by decide), if_pos rfl, if_neg h1, if_neg h2, if_neg h3]
  repeat (first | (refine (if_pos ?_).trans ?_; · first | exact True.intro | omega | (simp [capOf]; done) | (simp [capOf]; omega)) | (refine (if_neg ?_).trans ?_; · first | omega | (simp; done) | (simp; omega)))
  simp [segRRead, segZ, segF, hr]

theorem sSegR : SoundE Try.prog 10 (entF eSegR) := by
  refine canonV_sound fun args h v h' hg => ?_
  unfold eSegR at hg
  split at hg
  · rename_i p b
    simp only [Option.some.injEq, Prod.mk.injEq, Bool.and_eq_true, decide_eq_true_eq] at hg
    obtain ⟨⟨hb, hn⟩, rfl, rfl⟩ := hg
    rw [← bOk_len hb] at hn
    refine ⟨rfl, rfl, [.int .u8 p, slB 0 (bOf h b)], [farB (bOf h b)], .cons _ _ _ _ _ _ _ (.flat _ _ rfl) (.cons _ _ _ _ _ _ _ (bOk_canon hb 0) (.nil _)), ?_⟩
    generalize bOf h b = l at hn
    by_cases h6 : p = 6
    · subst h6
      exact Runs.valT0 tSegOk (F := 100) (n := 4) (pr := []) (walkSegT l hn)
    by_cases h17 : p = 17
    · subst h17
      exact Runs.valT0 tSegOk (F := 100) (n := 4) (pr := []) (walkSegU l hn)
    refine Runs.valT0 tSegOk (F := 100) (n := 4) (pr := [(10, .bool false), (12, .bool false)]) ?_
    rw [nfSegN]
    have hr : segR p l = 6 := by unfold segR; rw [if_neg h6, if_neg h17]
    refine (if_pos (beq_eq_false_iff_ne.2 h6)).trans ?_
    refine (if_pos (beq_eq_false_iff_ne.2 h17)).trans ?_
    simp [segRead, segZ, segF, hr]
  · simp at hg

theorem sRSegR : SoundE Try.prog 11 (entF eRSegR) := by
  refine canonV_sound fun args h v h' hg => ?_
  unfold eRSegR at hg
  split at hg
  · rename_i p b
    simp only [Option.some.injEq, Prod.mk.injEq, Bool.and_eq_true, decide_eq_true_eq] at hg
    obtain ⟨⟨hb, hn⟩, rfl, rfl⟩ := hg
    rw [← bOk_len hb] at hn
    refine ⟨rfl, rfl, [.int .u8 p, slB 0 (bOf h b)], [farB (bOf h b)], .cons _ _ _ _ _ _ _ (.flat _ _ rfl) (.cons _ _ _ _ _ _ _ (bOk_canon hb 0) (.nil _)), ?_⟩
    generalize bOf h b = l at hn
    by_cases h6 : p = 6
    · subst h6
      exact Runs.valT0 tRSegOk (F := 100) (n := 4) (pr := []) (walkRSegT l hn)
    by_cases h17 : p = 17
    · subst h17
      exact Runs.valT0 tRSegOk (F := 100) (n := 4) (pr := []) (walkRSegU l hn)
    refine Runs.valT0 tRSegOk (F := 100) (n := 4) (pr := [(9, .bool false), (38, .bool false)]) ?_
    rw [nfRSegN]
    have hr : segR p l = 6 := by unfold segR; rw [if_neg h6, if_neg h17]
    refine (if_pos (beq_eq_false_iff_ne.2 h6)).trans ?_
    refine (if_pos (beq_eq_false_iff_ne.2 h17)).trans ?_
    simp [segRRead, segZ, segF, hr]
  · simp at hg

end Go.Proofs.Ytmlenlfhciapfaa.L
