/- FifoNumbers' run. -/
import Derived.Test.YtdildbadafdbgaaFifoNumbersN
set_option autoImplicit false
set_option maxRecDepth 100000
set_option linter.unusedVariables false
set_option linter.unusedSimpArgs false
namespace Go.Proofs.Ytdildbadafdbgaa.L
open Go Go.Abs

abbrev QN := FQ Int Bool
def fnPush (m i : Nat) (q : QN) : QN := if q.P.length < m then q.push (AV.int .i64) AV.bool (i : Int) true else q
def fnPops (l : List Int) (i : Nat) : Bool := decide (i < l.length) && ((l.getD i 0).tmod 2 == 0)
def fnSt (m : Nat) (l : List Int) : Nat → QN
  | 0 => ⟨0, [], 0, []⟩
  | i + 1 => if fnPops l i = true then (fnPush m i (fnSt m l i)).pop else fnPush m i (fnSt m l i)
structure FnOk (m i : Nat) (q : QN) : Prop where
  ok : q.Ok (AV.int .i64) AV.bool
  le : q.P.length ≤ m
  xi : q.x ≤ i
  new : ∀ p ∈ q.P, p.1 < i
theorem fnPush_ok {m i : Nat} {q : QN} (h : FnOk m i q) : FnOk m (i + 1) (fnPush m i q) := by
  unfold fnPush
  split
  · rename_i hm
    refine ⟨h.ok.push (fun _ => rfl) (fun _ => rfl) _ _, by simp [FQ.push]; omega, by simp [FQ.push]; have := h.xi; omega, ?_⟩
    intro p hp
    simp only [FQ.push, List.mem_append, List.mem_singleton] at hp
    rcases hp with hp | rfl
    · have := h.new p hp; omega
    · simp; omega
  · exact ⟨h.ok, h.le, by have := h.xi; omega, fun p hp => by have := h.new p hp; omega⟩
theorem fnPush_pos {m i : Nat} {q : QN} (hm : 1 ≤ m) : 0 < (fnPush m i q).P.length := by
  unfold fnPush
  split
  · simp [FQ.push]
  · omega
theorem fnPop_ok {m i : Nat} {q : QN} (h : FnOk m i q) (hn : 0 < q.P.length) : FnOk m i q.pop :=
  ⟨h.ok.pop hn, by have := h.le; simp [FQ.pop]; omega, h.xi, fun p hp => h.new p (List.mem_of_mem_tail hp)⟩
theorem fnSt_ok {m : Nat} (l : List Int) (hm : 1 ≤ m) : ∀ i, FnOk m i (fnSt m l i)
  | 0 => ⟨⟨rfl, rfl, rfl, by simp [fnSt]⟩, by simp [fnSt], by simp [fnSt], by simp [fnSt]⟩
  | i + 1 => by
    unfold fnSt
    have h := fnPush_ok (fnSt_ok l hm i)
    split
    · exact fnPop_ok h (fnPush_pos hm)
    · exact h
def sFN (m n : Nat) (l : List Int) (i : Nat) (q : QN) : List AV × AHeap := (vFN m n l q.x ((q.x - q.P.length : Nat) : Int) i, hFN l m q.x q.o q.P.length q.C)
theorem ixNew {P : List (Int × Bool)} {i : Int} (h : ∀ p ∈ P, p.1 < i) : ixIxib P i = -1 := by
  unfold ixIxib atIxib
  rw [if_neg]
  rw [List.findIdx_lt_length]
  rintro ⟨p, hp, he⟩
  have := h p hp
  simp at he; omega
theorem gcFN {l : List Int} {m n : Nat} {x f i : Int} (p : Nat) {x' f' i' : Nat} {k o k' : Nat} {C' : List AV} {h1 : AHeap} {par : Option Nat} (b0 : h1[0]? = some (farI l)) (b1 : h1[1]? = some (.cells [.int .i64 m, .int .i64 x, .sl (some (p, o)) k 0 false] 3 .own none)) (b2 : h1[p]? = some (.cells C' 2 .own par))
    (hp : 2 ≤ p) (hpar : ∀ q, par = some q → posOf [0, 1, p] q = none) (hC : AV.frees C' = true) (hk : k = k') (hx : x = x') (hf : f = f') (hi : i = i') :
    Gc 2 [.int .i64 m, .int .i64 n, .sl (some (0, 0)) l.length 0 false, .ptr (some (1, 0)), .int .i64 x, .int .i64 f, .int .i64 i] h1 (vFN m n l x' f' i') (hFN l m x' o k' C') := by
  subst hx hf hi hk
  have hn : [0, 1, p].Nodup := by simp; omega
  have hq : posOf [0, 1, p] p = some 2 := posOf_mem hn rfl
  exact Gc.by [0, 1, p] rfl hn (.cons _ _ _ _ (.free _ rfl) (.cons _ _ _ _ (.free _ rfl) (.cons _ _ _ _ (.sl _ _ _ _ _ _ rfl) (.cons _ _ _ _ (.ptr _ _ _ rfl) (.free _ rfl))))) (.cons _ _ _ _ _ b0 (.row (frees_ints _) (by simp)) (.cons _ _ _ _ _ b1 (.cells _ _ _ _ _ _ (.cons _ _ _ _ (.free _ rfl) (.cons _ _ _ _ (.free _ rfl) (.cons _ _ _ _ (.sl _ _ _ _ _ _ hq) .nil))) (by simp)) (.cons _ _ _ _ _ b2 (.row hC (fun q j h1 h2 => by rw [hpar q h1] at h2; cases h2)) .nil)))

theorem stepFNA {m n i : Nat} {l : List Int} {q : QN} (ok : FnOk m i q) (hm : 1 ≤ m ∧ m ≤ 64) (hn : n ≤ 100) (hi : i < n) (hp : q.P.length < m) (hj : ¬ i < l.length) :
    ∃ vs1 h1, qround Try.prog tFN 100 5 [(51, .bool true), (76, .bool false), (78, .bool true), (85, .bool false), (133, .bool false)] noT LFN mFN (sFN m n l i q).1 (sFN m n l i q).2 = some (.norm, vs1, h1) ∧ Gc 2 vs1 h1 (sFN m n l (i + 1) (fnPush m i q)).1 (sFN m n l (i + 1) (fnPush m i q)).2 := by
  have hx := ok.ok.x
  have hl := ok.ok.n
  have hle := ok.le
  have hxi := ok.xi
  have hq : fnPush m i q = q.push (AV.int .i64) AV.bool (i : Int) true := by unfold fnPush; exact if_pos hp
  have ht := ok.ok.t
  unfold sFN
  rw [hq, nfFNA]
  have hr := ok.ok.row (hp := hFNA0 l m q.x ((q.x - q.P.length : Nat) : Int) i n q.o q.P.length q.C) (k := 2) (md := .own) (par := none) (r := 0) (e := false) rfl
  have hI := RIxib.mk q.P (i : Int) (hFNA0 l m q.x ((q.x - q.P.length : Nat) : Int) i n q.o q.P.length q.C) _ 3 .own none hr.1 hr.2 rfl (by omega) (-1) (ixNew ok.new)
  refine ⟨?_, ?_, ?_, ?_⟩
  rotate_left 2
  · simp only [ht, intS, isI0]
    refine (if_pos (by first | omega | (simp; done) | (simp [isIntV, isBoolV, isStrV, putCells, capOf]; done) | (simp; omega) | (simp [capOf]; omega))).trans ?_
    refine (if_pos (cdec_true.2 (hI))).trans ?_
    refine (if_neg (by first | omega | (simp; done) | (simp [isIntV, isBoolV, isStrV, putCells, capOf]; done) | (simp; omega) | (simp [capOf]; omega))).trans ?_
    iterate 3 (refine (if_pos (by first | omega | (simp; done) | (simp [isIntV, isBoolV, isStrV, putCells, capOf]; done) | (simp; omega) | (simp [capOf]; omega))).trans ?_)
    refine (if_neg (by first | (rw [decide_eq_true (by first | omega | (rw [wrapI64 (by omega)] <;> omega) | (rw [wrapI64 (by omega), wrapI64 (by omega)] <;> omega))]; decide) | (rw [decide_eq_false (by first | omega | (rw [wrapI64 (by omega)] <;> omega) | (rw [wrapI64 (by omega), wrapI64 (by omega)] <;> omega))]; decide))).trans ?_
    refine (if_pos (by first | (simp only [wrapAL, wrapAR, wrapSL, wrapSR, bne_iff_ne, ne_eq, beq_iff_eq, decide_eq_true_eq, decide_eq_false_iff_not, beq_eq_false_iff_ne, bne_eq_false_iff_eq, Decidable.not_not, ge_iff_le, gt_iff_lt, Int.not_lt, Int.not_le]; done) | (simp only [wrapAL, wrapAR, wrapSL, wrapSR, bne_iff_ne, ne_eq, beq_iff_eq, decide_eq_true_eq, decide_eq_false_iff_not, beq_eq_false_iff_ne, bne_eq_false_iff_eq, Decidable.not_not, ge_iff_le, gt_iff_lt, Int.not_lt, Int.not_le]; omega) | (simp only [wrapAL, wrapAR, wrapSL, wrapSR, bne_iff_ne, ne_eq, beq_iff_eq, decide_eq_true_eq, decide_eq_false_iff_not, beq_eq_false_iff_ne, bne_eq_false_iff_eq, Decidable.not_not, ge_iff_le, gt_iff_lt, Int.not_lt, Int.not_le]; rw [wrapI64 (by omega)] <;> omega) | (simp only [wrapAL, wrapAR, wrapSL, wrapSR, bne_iff_ne, ne_eq, beq_iff_eq, decide_eq_true_eq, decide_eq_false_iff_not, beq_eq_false_iff_ne, bne_eq_false_iff_eq, Decidable.not_not, ge_iff_le, gt_iff_lt, Int.not_lt, Int.not_le]; rw [wrapI64 (by omega), wrapI64 (by omega)] <;> omega) | (simp; done) | (simp; omega))).trans ?_
    refine (if_pos (by first | omega | (simp; done) | (simp [isIntV, isBoolV, isStrV, putCells, capOf]; done) | (simp; omega) | (simp [capOf]; omega))).trans ?_
    iterate 2 (refine (if_neg (by first | (simp only [wrapAL, wrapAR, wrapSL, wrapSR, bne_iff_ne, ne_eq, beq_iff_eq, decide_eq_true_eq, decide_eq_false_iff_not, beq_eq_false_iff_ne, bne_eq_false_iff_eq, Decidable.not_not, ge_iff_le, gt_iff_lt, Int.not_lt, Int.not_le]; done) | (simp only [wrapAL, wrapAR, wrapSL, wrapSR, bne_iff_ne, ne_eq, beq_iff_eq, decide_eq_true_eq, decide_eq_false_iff_not, beq_eq_false_iff_ne, bne_eq_false_iff_eq, Decidable.not_not, ge_iff_le, gt_iff_lt, Int.not_lt, Int.not_le]; omega) | (simp only [wrapAL, wrapAR, wrapSL, wrapSR, bne_iff_ne, ne_eq, beq_iff_eq, decide_eq_true_eq, decide_eq_false_iff_not, beq_eq_false_iff_ne, bne_eq_false_iff_eq, Decidable.not_not, ge_iff_le, gt_iff_lt, Int.not_lt, Int.not_le]; rw [wrapI64 (by omega)] <;> omega) | (simp only [wrapAL, wrapAR, wrapSL, wrapSR, bne_iff_ne, ne_eq, beq_iff_eq, decide_eq_true_eq, decide_eq_false_iff_not, beq_eq_false_iff_ne, bne_eq_false_iff_eq, Decidable.not_not, ge_iff_le, gt_iff_lt, Int.not_lt, Int.not_le]; rw [wrapI64 (by omega), wrapI64 (by omega)] <;> omega) | (simp; done) | (simp; omega))).trans ?_)
    refine (if_pos (by first | (simp only [wrapAL, wrapAR, wrapSL, wrapSR, bne_iff_ne, ne_eq, beq_iff_eq, decide_eq_true_eq, decide_eq_false_iff_not, beq_eq_false_iff_ne, bne_eq_false_iff_eq, Decidable.not_not, ge_iff_le, gt_iff_lt, Int.not_lt, Int.not_le]; done) | (simp only [wrapAL, wrapAR, wrapSL, wrapSR, bne_iff_ne, ne_eq, beq_iff_eq, decide_eq_true_eq, decide_eq_false_iff_not, beq_eq_false_iff_ne, bne_eq_false_iff_eq, Decidable.not_not, ge_iff_le, gt_iff_lt, Int.not_lt, Int.not_le]; omega) | (simp only [wrapAL, wrapAR, wrapSL, wrapSR, bne_iff_ne, ne_eq, beq_iff_eq, decide_eq_true_eq, decide_eq_false_iff_not, beq_eq_false_iff_ne, bne_eq_false_iff_eq, Decidable.not_not, ge_iff_le, gt_iff_lt, Int.not_lt, Int.not_le]; rw [wrapI64 (by omega)] <;> omega) | (simp only [wrapAL, wrapAR, wrapSL, wrapSR, bne_iff_ne, ne_eq, beq_iff_eq, decide_eq_true_eq, decide_eq_false_iff_not, beq_eq_false_iff_ne, bne_eq_false_iff_eq, Decidable.not_not, ge_iff_le, gt_iff_lt, Int.not_lt, Int.not_le]; rw [wrapI64 (by omega), wrapI64 (by omega)] <;> omega) | (simp; done) | (simp; omega))).trans ?_
    rfl
  · have hf := frIxib (q.P ++ [((i : Int), true)])
    refine gcFN 5 rfl rfl (par := some 2) (by unfold hFNA2; rw [ht]; exact congrArg some (congrArg (fun x => ABlk.cells x 2 .own (some 2)) (by simp [FQ.push]))) (by omega) (by rintro q ⟨rfl⟩; rfl) (by simpa [FQ.push] using hf) (by simp [FQ.push]) (by simp only [FQ.push, intS]; rw [wrapI64 (by omega)]; omega) (by simp [FQ.push]) (by rw [wrapI64 (by omega)]; omega)

theorem stepFNB {m n i : Nat} {l : List Int} {q : QN} (ok : FnOk m i q) (hm : 1 ≤ m ∧ m ≤ 64) (hn : n ≤ 100) (hi : i < n) (hp : q.P.length < m) (hj : i < l.length) (he : ((l.getD i 0).tmod 2 == 0) = false) :
    ∃ vs1 h1, qround Try.prog tFN 100 5 [(51, .bool true), (76, .bool false), (78, .bool true), (85, .bool true), (91, .bool false), (133, .bool false)] noT LFN mFN (sFN m n l i q).1 (sFN m n l i q).2 = some (.norm, vs1, h1) ∧ Gc 2 vs1 h1 (sFN m n l (i + 1) (fnPush m i q)).1 (sFN m n l (i + 1) (fnPush m i q)).2 := by
  have hx := ok.ok.x
  have hl := ok.ok.n
  have hle := ok.le
  have hxi := ok.xi
  have hq : fnPush m i q = q.push (AV.int .i64) AV.bool (i : Int) true := by unfold fnPush; exact if_pos hp
  have ht := ok.ok.t
  unfold sFN
  rw [hq, nfFNB]
  have hr := ok.ok.row (hp := hFNB0 l m q.x ((q.x - q.P.length : Nat) : Int) i n q.o q.P.length q.C) (k := 2) (md := .own) (par := none) (r := 0) (e := false) rfl
  have hI := RIxib.mk q.P (i : Int) (hFNB0 l m q.x ((q.x - q.P.length : Nat) : Int) i n q.o q.P.length q.C) _ 3 .own none hr.1 hr.2 rfl (by omega) (-1) (ixNew ok.new)
  have e0 : ((l.map (AV.int .i64))[0 + (i : Int).toNat * 1]?) = some (.int .i64 (l.getD i 0)) := by rw [show 0 + (i : Int).toNat * 1 = i by omega]; exact get_ints hj
  refine ⟨?_, ?_, ?_, ?_⟩
  rotate_left 2
  · simp only [ht, e0, intS, isI0]
    refine (if_pos (by first | omega | (simp; done) | (simp [isIntV, isBoolV, isStrV, putCells, capOf]; done) | (simp; omega) | (simp [capOf]; omega))).trans ?_
    refine (if_pos (cdec_true.2 (hI))).trans ?_
    refine (if_neg (by first | omega | (simp; done) | (simp [isIntV, isBoolV, isStrV, putCells, capOf]; done) | (simp; omega) | (simp [capOf]; omega))).trans ?_
    iterate 3 (refine (if_pos (by first | omega | (simp; done) | (simp [isIntV, isBoolV, isStrV, putCells, capOf]; done) | (simp; omega) | (simp [capOf]; omega))).trans ?_)
    refine (if_neg (by first | (rw [decide_eq_true (by first | omega | (rw [wrapI64 (by omega)] <;> omega) | (rw [wrapI64 (by omega), wrapI64 (by omega)] <;> omega))]; decide) | (rw [decide_eq_false (by first | omega | (rw [wrapI64 (by omega)] <;> omega) | (rw [wrapI64 (by omega), wrapI64 (by omega)] <;> omega))]; decide))).trans ?_
    refine (if_pos (by first | (simp only [wrapAL, wrapAR, wrapSL, wrapSR, bne_iff_ne, ne_eq, beq_iff_eq, decide_eq_true_eq, decide_eq_false_iff_not, beq_eq_false_iff_ne, bne_eq_false_iff_eq, Decidable.not_not, ge_iff_le, gt_iff_lt, Int.not_lt, Int.not_le]; done) | (simp only [wrapAL, wrapAR, wrapSL, wrapSR, bne_iff_ne, ne_eq, beq_iff_eq, decide_eq_true_eq, decide_eq_false_iff_not, beq_eq_false_iff_ne, bne_eq_false_iff_eq, Decidable.not_not, ge_iff_le, gt_iff_lt, Int.not_lt, Int.not_le]; omega) | (simp only [wrapAL, wrapAR, wrapSL, wrapSR, bne_iff_ne, ne_eq, beq_iff_eq, decide_eq_true_eq, decide_eq_false_iff_not, beq_eq_false_iff_ne, bne_eq_false_iff_eq, Decidable.not_not, ge_iff_le, gt_iff_lt, Int.not_lt, Int.not_le]; rw [wrapI64 (by omega)] <;> omega) | (simp only [wrapAL, wrapAR, wrapSL, wrapSR, bne_iff_ne, ne_eq, beq_iff_eq, decide_eq_true_eq, decide_eq_false_iff_not, beq_eq_false_iff_ne, bne_eq_false_iff_eq, Decidable.not_not, ge_iff_le, gt_iff_lt, Int.not_lt, Int.not_le]; rw [wrapI64 (by omega), wrapI64 (by omega)] <;> omega) | (simp; done) | (simp; omega))).trans ?_
    iterate 3 (refine (if_pos (by first | omega | (simp; done) | (simp [isIntV, isBoolV, isStrV, putCells, capOf]; done) | (simp; omega) | (simp [capOf]; omega))).trans ?_)
    refine (if_pos (he)).trans ?_
    iterate 2 (refine (if_neg (by first | (simp only [wrapAL, wrapAR, wrapSL, wrapSR, bne_iff_ne, ne_eq, beq_iff_eq, decide_eq_true_eq, decide_eq_false_iff_not, beq_eq_false_iff_ne, bne_eq_false_iff_eq, Decidable.not_not, ge_iff_le, gt_iff_lt, Int.not_lt, Int.not_le]; done) | (simp only [wrapAL, wrapAR, wrapSL, wrapSR, bne_iff_ne, ne_eq, beq_iff_eq, decide_eq_true_eq, decide_eq_false_iff_not, beq_eq_false_iff_ne, bne_eq_false_iff_eq, Decidable.not_not, ge_iff_le, gt_iff_lt, Int.not_lt, Int.not_le]; omega) | (simp only [wrapAL, wrapAR, wrapSL, wrapSR, bne_iff_ne, ne_eq, beq_iff_eq, decide_eq_true_eq, decide_eq_false_iff_not, beq_eq_false_iff_ne, bne_eq_false_iff_eq, Decidable.not_not, ge_iff_le, gt_iff_lt, Int.not_lt, Int.not_le]; rw [wrapI64 (by omega)] <;> omega) | (simp only [wrapAL, wrapAR, wrapSL, wrapSR, bne_iff_ne, ne_eq, beq_iff_eq, decide_eq_true_eq, decide_eq_false_iff_not, beq_eq_false_iff_ne, bne_eq_false_iff_eq, Decidable.not_not, ge_iff_le, gt_iff_lt, Int.not_lt, Int.not_le]; rw [wrapI64 (by omega), wrapI64 (by omega)] <;> omega) | (simp; done) | (simp; omega))).trans ?_)
    refine (if_pos (by first | (simp only [wrapAL, wrapAR, wrapSL, wrapSR, bne_iff_ne, ne_eq, beq_iff_eq, decide_eq_true_eq, decide_eq_false_iff_not, beq_eq_false_iff_ne, bne_eq_false_iff_eq, Decidable.not_not, ge_iff_le, gt_iff_lt, Int.not_lt, Int.not_le]; done) | (simp only [wrapAL, wrapAR, wrapSL, wrapSR, bne_iff_ne, ne_eq, beq_iff_eq, decide_eq_true_eq, decide_eq_false_iff_not, beq_eq_false_iff_ne, bne_eq_false_iff_eq, Decidable.not_not, ge_iff_le, gt_iff_lt, Int.not_lt, Int.not_le]; omega) | (simp only [wrapAL, wrapAR, wrapSL, wrapSR, bne_iff_ne, ne_eq, beq_iff_eq, decide_eq_true_eq, decide_eq_false_iff_not, beq_eq_false_iff_ne, bne_eq_false_iff_eq, Decidable.not_not, ge_iff_le, gt_iff_lt, Int.not_lt, Int.not_le]; rw [wrapI64 (by omega)] <;> omega) | (simp only [wrapAL, wrapAR, wrapSL, wrapSR, bne_iff_ne, ne_eq, beq_iff_eq, decide_eq_true_eq, decide_eq_false_iff_not, beq_eq_false_iff_ne, bne_eq_false_iff_eq, Decidable.not_not, ge_iff_le, gt_iff_lt, Int.not_lt, Int.not_le]; rw [wrapI64 (by omega), wrapI64 (by omega)] <;> omega) | (simp; done) | (simp; omega))).trans ?_
    rfl
  · have hf := frIxib (q.P ++ [((i : Int), true)])
    refine gcFN 5 rfl rfl (par := some 2) (by unfold hFNB2; rw [ht]; exact congrArg some (congrArg (fun x => ABlk.cells x 2 .own (some 2)) (by simp [FQ.push]))) (by omega) (by rintro q ⟨rfl⟩; rfl) (by simpa [FQ.push] using hf) (by simp [FQ.push]) (by simp only [FQ.push, intS]; rw [wrapI64 (by omega)]; omega) (by simp [FQ.push]) (by rw [wrapI64 (by omega)]; omega)

theorem stepFNC {m n i : Nat} {l : List Int} {q : QN} (ok : FnOk m i q) (hm : 1 ≤ m ∧ m ≤ 64) (hn : n ≤ 100) (hi : i < n) (hp : q.P.length < m) (hj : i < l.length) (he : ((l.getD i 0).tmod 2 == 0) = true) :
    ∃ vs1 h1, qround Try.prog tFN 100 5 [(51, .bool true), (76, .bool false), (78, .bool true), (85, .bool true), (91, .bool true), (112, .bool false), (113, .bool true), (133, .bool false)] noT LFN mFN (sFN m n l i q).1 (sFN m n l i q).2 = some (.norm, vs1, h1) ∧ Gc 2 vs1 h1 (sFN m n l (i + 1) ((fnPush m i q).pop)).1 (sFN m n l (i + 1) ((fnPush m i q).pop)).2 := by
  have hx := ok.ok.x
  have hl := ok.ok.n
  have hle := ok.le
  have hxi := ok.xi
  have hq : fnPush m i q = q.push (AV.int .i64) AV.bool (i : Int) true := by unfold fnPush; exact if_pos hp
  have ht := ok.ok.t
  unfold sFN
  rw [hq, nfFNC]
  have hr := ok.ok.row (hp := hFNC0 l m q.x ((q.x - q.P.length : Nat) : Int) i n q.o q.P.length q.C) (k := 2) (md := .own) (par := none) (r := 0) (e := false) rfl
  have hI := RIxib.mk q.P (i : Int) (hFNC0 l m q.x ((q.x - q.P.length : Nat) : Int) i n q.o q.P.length q.C) _ 3 .own none hr.1 hr.2 rfl (by omega) (-1) (ixNew ok.new)
  have e0 : ((l.map (AV.int .i64))[0 + (i : Int).toNat * 1]?) = some (.int .i64 (l.getD i 0)) := by rw [show 0 + (i : Int).toNat * 1 = i by omega]; exact get_ints hj
  obtain ⟨ka, va, P', hP⟩ : ∃ ka va P', q.P ++ [((i : Int), true)] = (ka, va) :: P' := by
    cases h : q.P with
    | nil => exact ⟨_, _, _, rfl⟩
    | cons x P => exact ⟨x.1, x.2, P ++ [((i : Int), true)], rfl⟩
  have et : flIxib q.P ++ [AV.int IntKind.i64 (i : Int), AV.bool true] = AV.int .i64 ka :: AV.bool va :: flIxib P' := by
    have := congrArg (fl (AV.int .i64) AV.bool) hP
    simpa using this
  have hP2 : (q.P ++ [((i : Int), true)]).tail = P' := by rw [hP]; rfl
  have hP3 : q.P.length + 1 - 1 = P'.length := by have := congrArg List.length hP; simp at this; omega
  refine ⟨?_, ?_, ?_, ?_⟩
  rotate_left 2
  · simp only [ht, e0, intS, isI0, et]
    refine (if_pos (by first | omega | (simp; done) | (simp [isIntV, isBoolV, isStrV, putCells, capOf]; done) | (simp; omega) | (simp [capOf]; omega))).trans ?_
    refine (if_pos (cdec_true.2 (hI))).trans ?_
    refine (if_neg (by first | omega | (simp; done) | (simp [isIntV, isBoolV, isStrV, putCells, capOf]; done) | (simp; omega) | (simp [capOf]; omega))).trans ?_
    iterate 3 (refine (if_pos (by first | omega | (simp; done) | (simp [isIntV, isBoolV, isStrV, putCells, capOf]; done) | (simp; omega) | (simp [capOf]; omega))).trans ?_)
    refine (if_neg (by first | (rw [decide_eq_true (by first | omega | (rw [wrapI64 (by omega)] <;> omega) | (rw [wrapI64 (by omega), wrapI64 (by omega)] <;> omega))]; decide) | (rw [decide_eq_false (by first | omega | (rw [wrapI64 (by omega)] <;> omega) | (rw [wrapI64 (by omega), wrapI64 (by omega)] <;> omega))]; decide))).trans ?_
    refine (if_pos (by first | (simp only [wrapAL, wrapAR, wrapSL, wrapSR, bne_iff_ne, ne_eq, beq_iff_eq, decide_eq_true_eq, decide_eq_false_iff_not, beq_eq_false_iff_ne, bne_eq_false_iff_eq, Decidable.not_not, ge_iff_le, gt_iff_lt, Int.not_lt, Int.not_le]; done) | (simp only [wrapAL, wrapAR, wrapSL, wrapSR, bne_iff_ne, ne_eq, beq_iff_eq, decide_eq_true_eq, decide_eq_false_iff_not, beq_eq_false_iff_ne, bne_eq_false_iff_eq, Decidable.not_not, ge_iff_le, gt_iff_lt, Int.not_lt, Int.not_le]; omega) | (simp only [wrapAL, wrapAR, wrapSL, wrapSR, bne_iff_ne, ne_eq, beq_iff_eq, decide_eq_true_eq, decide_eq_false_iff_not, beq_eq_false_iff_ne, bne_eq_false_iff_eq, Decidable.not_not, ge_iff_le, gt_iff_lt, Int.not_lt, Int.not_le]; rw [wrapI64 (by omega)] <;> omega) | (simp only [wrapAL, wrapAR, wrapSL, wrapSR, bne_iff_ne, ne_eq, beq_iff_eq, decide_eq_true_eq, decide_eq_false_iff_not, beq_eq_false_iff_ne, bne_eq_false_iff_eq, Decidable.not_not, ge_iff_le, gt_iff_lt, Int.not_lt, Int.not_le]; rw [wrapI64 (by omega), wrapI64 (by omega)] <;> omega) | (simp; done) | (simp; omega))).trans ?_
    iterate 3 (refine (if_pos (by first | omega | (simp; done) | (simp [isIntV, isBoolV, isStrV, putCells, capOf]; done) | (simp; omega) | (simp [capOf]; omega))).trans ?_)
    refine (if_pos (he)).trans ?_
    iterate 7 (refine (if_pos (by first | omega | (simp; done) | (simp [isIntV, isBoolV, isStrV, putCells, capOf]; done) | (simp; omega) | (simp [capOf]; omega))).trans ?_)
    refine (if_neg (by first | (rw [decide_eq_true (by first | omega | (rw [wrapI64 (by omega)] <;> omega) | (rw [wrapI64 (by omega), wrapI64 (by omega)] <;> omega))]; decide) | (rw [decide_eq_false (by first | omega | (rw [wrapI64 (by omega)] <;> omega) | (rw [wrapI64 (by omega), wrapI64 (by omega)] <;> omega))]; decide))).trans ?_
    refine (if_pos (by first | (simp only [wrapAL, wrapAR, wrapSL, wrapSR, bne_iff_ne, ne_eq, beq_iff_eq, decide_eq_true_eq, decide_eq_false_iff_not, beq_eq_false_iff_ne, bne_eq_false_iff_eq, Decidable.not_not, ge_iff_le, gt_iff_lt, Int.not_lt, Int.not_le]; done) | (simp only [wrapAL, wrapAR, wrapSL, wrapSR, bne_iff_ne, ne_eq, beq_iff_eq, decide_eq_true_eq, decide_eq_false_iff_not, beq_eq_false_iff_ne, bne_eq_false_iff_eq, Decidable.not_not, ge_iff_le, gt_iff_lt, Int.not_lt, Int.not_le]; omega) | (simp only [wrapAL, wrapAR, wrapSL, wrapSR, bne_iff_ne, ne_eq, beq_iff_eq, decide_eq_true_eq, decide_eq_false_iff_not, beq_eq_false_iff_ne, bne_eq_false_iff_eq, Decidable.not_not, ge_iff_le, gt_iff_lt, Int.not_lt, Int.not_le]; rw [wrapI64 (by omega)] <;> omega) | (simp only [wrapAL, wrapAR, wrapSL, wrapSR, bne_iff_ne, ne_eq, beq_iff_eq, decide_eq_true_eq, decide_eq_false_iff_not, beq_eq_false_iff_ne, bne_eq_false_iff_eq, Decidable.not_not, ge_iff_le, gt_iff_lt, Int.not_lt, Int.not_le]; rw [wrapI64 (by omega), wrapI64 (by omega)] <;> omega) | (simp; done) | (simp; omega))).trans ?_
    iterate 2 (refine (if_neg (by first | (simp only [wrapAL, wrapAR, wrapSL, wrapSR, bne_iff_ne, ne_eq, beq_iff_eq, decide_eq_true_eq, decide_eq_false_iff_not, beq_eq_false_iff_ne, bne_eq_false_iff_eq, Decidable.not_not, ge_iff_le, gt_iff_lt, Int.not_lt, Int.not_le]; done) | (simp only [wrapAL, wrapAR, wrapSL, wrapSR, bne_iff_ne, ne_eq, beq_iff_eq, decide_eq_true_eq, decide_eq_false_iff_not, beq_eq_false_iff_ne, bne_eq_false_iff_eq, Decidable.not_not, ge_iff_le, gt_iff_lt, Int.not_lt, Int.not_le]; omega) | (simp only [wrapAL, wrapAR, wrapSL, wrapSR, bne_iff_ne, ne_eq, beq_iff_eq, decide_eq_true_eq, decide_eq_false_iff_not, beq_eq_false_iff_ne, bne_eq_false_iff_eq, Decidable.not_not, ge_iff_le, gt_iff_lt, Int.not_lt, Int.not_le]; rw [wrapI64 (by omega)] <;> omega) | (simp only [wrapAL, wrapAR, wrapSL, wrapSR, bne_iff_ne, ne_eq, beq_iff_eq, decide_eq_true_eq, decide_eq_false_iff_not, beq_eq_false_iff_ne, bne_eq_false_iff_eq, Decidable.not_not, ge_iff_le, gt_iff_lt, Int.not_lt, Int.not_le]; rw [wrapI64 (by omega), wrapI64 (by omega)] <;> omega) | (simp; done) | (simp; omega))).trans ?_)
    refine (if_pos (by first | (simp only [wrapAL, wrapAR, wrapSL, wrapSR, bne_iff_ne, ne_eq, beq_iff_eq, decide_eq_true_eq, decide_eq_false_iff_not, beq_eq_false_iff_ne, bne_eq_false_iff_eq, Decidable.not_not, ge_iff_le, gt_iff_lt, Int.not_lt, Int.not_le]; done) | (simp only [wrapAL, wrapAR, wrapSL, wrapSR, bne_iff_ne, ne_eq, beq_iff_eq, decide_eq_true_eq, decide_eq_false_iff_not, beq_eq_false_iff_ne, bne_eq_false_iff_eq, Decidable.not_not, ge_iff_le, gt_iff_lt, Int.not_lt, Int.not_le]; omega) | (simp only [wrapAL, wrapAR, wrapSL, wrapSR, bne_iff_ne, ne_eq, beq_iff_eq, decide_eq_true_eq, decide_eq_false_iff_not, beq_eq_false_iff_ne, bne_eq_false_iff_eq, Decidable.not_not, ge_iff_le, gt_iff_lt, Int.not_lt, Int.not_le]; rw [wrapI64 (by omega)] <;> omega) | (simp only [wrapAL, wrapAR, wrapSL, wrapSR, bne_iff_ne, ne_eq, beq_iff_eq, decide_eq_true_eq, decide_eq_false_iff_not, beq_eq_false_iff_ne, bne_eq_false_iff_eq, Decidable.not_not, ge_iff_le, gt_iff_lt, Int.not_lt, Int.not_le]; rw [wrapI64 (by omega), wrapI64 (by omega)] <;> omega) | (simp; done) | (simp; omega))).trans ?_
    rfl
  · have hf := frIxib (q.P ++ [((i : Int), true)])
    refine gcFN 5 rfl rfl (par := some 2) (by unfold hFNC2; rw [ht]; exact congrArg some (congrArg (fun x => ABlk.cells x 2 .own (some 2)) (by simp [FQ.push, FQ.pop]))) (by omega) (by rintro q ⟨rfl⟩; rfl) (by simpa [FQ.push, FQ.pop] using hf) (by simp [FQ.push, FQ.pop]) (by simp only [FQ.push, FQ.pop, intS]; rw [wrapI64 (by omega)]; omega) (by simp only [FQ.push, FQ.pop, List.length_tail, List.length_append, List.length_cons, List.length_nil]; rw [wrapI64 (by omega)]; omega) (by rw [wrapI64 (by omega)]; omega)

theorem stepFND {m n i : Nat} {l : List Int} {q : QN} (ok : FnOk m i q) (hm : 1 ≤ m ∧ m ≤ 64) (hn : n ≤ 100) (hi : i < n) (hp : ¬ q.P.length < m) (hj : ¬ i < l.length) :
    ∃ vs1 h1, qround Try.prog tFN 100 5 [(51, .bool true), (76, .bool false), (78, .bool false), (85, .bool false), (133, .bool false)] noT LFN mFN (sFN m n l i q).1 (sFN m n l i q).2 = some (.norm, vs1, h1) ∧ Gc 2 vs1 h1 (sFN m n l (i + 1) (fnPush m i q)).1 (sFN m n l (i + 1) (fnPush m i q)).2 := by
  have hx := ok.ok.x
  have hl := ok.ok.n
  have hle := ok.le
  have hxi := ok.xi
  have hq : fnPush m i q = q := by unfold fnPush; exact if_neg hp
  have ht := ok.ok.t
  unfold sFN
  rw [hq, nfFND]
  have hr := ok.ok.row (hp := hFND0 l m q.x ((q.x - q.P.length : Nat) : Int) i n q.o q.P.length q.C) (k := 2) (md := .own) (par := none) (r := 0) (e := false) rfl
  have hI := RIxib.mk q.P (i : Int) (hFND0 l m q.x ((q.x - q.P.length : Nat) : Int) i n q.o q.P.length q.C) _ 3 .own none hr.1 hr.2 rfl (by omega) (-1) (ixNew ok.new)
  refine ⟨?_, ?_, ?_, ?_⟩
  rotate_left 2
  · simp only [ht, intS, isI0]
    refine (if_pos (by first | omega | (simp; done) | (simp [isIntV, isBoolV, isStrV, putCells, capOf]; done) | (simp; omega) | (simp [capOf]; omega))).trans ?_
    refine (if_pos (cdec_true.2 (hI))).trans ?_
    refine (if_pos (by first | omega | (simp; done) | (simp [isIntV, isBoolV, isStrV, putCells, capOf]; done) | (simp; omega) | (simp [capOf]; omega))).trans ?_
    refine (if_neg (by first | (rw [decide_eq_true (by first | omega | (rw [wrapI64 (by omega)] <;> omega) | (rw [wrapI64 (by omega), wrapI64 (by omega)] <;> omega))]; decide) | (rw [decide_eq_false (by first | omega | (rw [wrapI64 (by omega)] <;> omega) | (rw [wrapI64 (by omega), wrapI64 (by omega)] <;> omega))]; decide))).trans ?_
    refine (if_pos (by first | omega | (simp; done) | (simp [isIntV, isBoolV, isStrV, putCells, capOf]; done) | (simp; omega) | (simp [capOf]; omega))).trans ?_
    iterate 2 (refine (if_neg (by first | (simp only [wrapAL, wrapAR, wrapSL, wrapSR, bne_iff_ne, ne_eq, beq_iff_eq, decide_eq_true_eq, decide_eq_false_iff_not, beq_eq_false_iff_ne, bne_eq_false_iff_eq, Decidable.not_not, ge_iff_le, gt_iff_lt, Int.not_lt, Int.not_le]; done) | (simp only [wrapAL, wrapAR, wrapSL, wrapSR, bne_iff_ne, ne_eq, beq_iff_eq, decide_eq_true_eq, decide_eq_false_iff_not, beq_eq_false_iff_ne, bne_eq_false_iff_eq, Decidable.not_not, ge_iff_le, gt_iff_lt, Int.not_lt, Int.not_le]; omega) | (simp only [wrapAL, wrapAR, wrapSL, wrapSR, bne_iff_ne, ne_eq, beq_iff_eq, decide_eq_true_eq, decide_eq_false_iff_not, beq_eq_false_iff_ne, bne_eq_false_iff_eq, Decidable.not_not, ge_iff_le, gt_iff_lt, Int.not_lt, Int.not_le]; rw [wrapI64 (by omega)] <;> omega) | (simp only [wrapAL, wrapAR, wrapSL, wrapSR, bne_iff_ne, ne_eq, beq_iff_eq, decide_eq_true_eq, decide_eq_false_iff_not, beq_eq_false_iff_ne, bne_eq_false_iff_eq, Decidable.not_not, ge_iff_le, gt_iff_lt, Int.not_lt, Int.not_le]; rw [wrapI64 (by omega), wrapI64 (by omega)] <;> omega) | (simp; done) | (simp; omega))).trans ?_)
    refine (if_pos (by first | (simp only [wrapAL, wrapAR, wrapSL, wrapSR, bne_iff_ne, ne_eq, beq_iff_eq, decide_eq_true_eq, decide_eq_false_iff_not, beq_eq_false_iff_ne, bne_eq_false_iff_eq, Decidable.not_not, ge_iff_le, gt_iff_lt, Int.not_lt, Int.not_le]; done) | (simp only [wrapAL, wrapAR, wrapSL, wrapSR, bne_iff_ne, ne_eq, beq_iff_eq, decide_eq_true_eq, decide_eq_false_iff_not, beq_eq_false_iff_ne, bne_eq_false_iff_eq, Decidable.not_not, ge_iff_le, gt_iff_lt, Int.not_lt, Int.not_le]; omega) | (simp only [wrapAL, wrapAR, wrapSL, wrapSR, bne_iff_ne, ne_eq, beq_iff_eq, decide_eq_true_eq, decide_eq_false_iff_not, beq_eq_false_iff_ne, bne_eq_false_iff_eq, Decidable.not_not, ge_iff_le, gt_iff_lt, Int.not_lt, Int.not_le]; rw [wrapI64 (by omega)] <;> omega) | (simp only [wrapAL, wrapAR, wrapSL, wrapSR, bne_iff_ne, ne_eq, beq_iff_eq, decide_eq_true_eq, decide_eq_false_iff_not, beq_eq_false_iff_ne, bne_eq_false_iff_eq, Decidable.not_not, ge_iff_le, gt_iff_lt, Int.not_lt, Int.not_le]; rw [wrapI64 (by omega), wrapI64 (by omega)] <;> omega) | (simp; done) | (simp; omega))).trans ?_
    rfl
  · refine gcFN 2 rfl rfl (par := none) rfl (by omega) (by simp) ok.ok.f rfl rfl rfl (by rw [wrapI64 (by omega)]; omega)

theorem stepFNE {m n i : Nat} {l : List Int} {q : QN} (ok : FnOk m i q) (hm : 1 ≤ m ∧ m ≤ 64) (hn : n ≤ 100) (hi : i < n) (hp : ¬ q.P.length < m) (hj : i < l.length) (he : ((l.getD i 0).tmod 2 == 0) = false) :
    ∃ vs1 h1, qround Try.prog tFN 100 5 [(51, .bool true), (76, .bool false), (78, .bool false), (85, .bool true), (91, .bool false), (133, .bool false)] noT LFN mFN (sFN m n l i q).1 (sFN m n l i q).2 = some (.norm, vs1, h1) ∧ Gc 2 vs1 h1 (sFN m n l (i + 1) (fnPush m i q)).1 (sFN m n l (i + 1) (fnPush m i q)).2 := by
  have hx := ok.ok.x
  have hl := ok.ok.n
  have hle := ok.le
  have hxi := ok.xi
  have hq : fnPush m i q = q := by unfold fnPush; exact if_neg hp
  have ht := ok.ok.t
  unfold sFN
  rw [hq, nfFNE]
  have hr := ok.ok.row (hp := hFNE0 l m q.x ((q.x - q.P.length : Nat) : Int) i n q.o q.P.length q.C) (k := 2) (md := .own) (par := none) (r := 0) (e := false) rfl
  have hI := RIxib.mk q.P (i : Int) (hFNE0 l m q.x ((q.x - q.P.length : Nat) : Int) i n q.o q.P.length q.C) _ 3 .own none hr.1 hr.2 rfl (by omega) (-1) (ixNew ok.new)
  have e0 : ((l.map (AV.int .i64))[0 + (i : Int).toNat * 1]?) = some (.int .i64 (l.getD i 0)) := by rw [show 0 + (i : Int).toNat * 1 = i by omega]; exact get_ints hj
  refine ⟨?_, ?_, ?_, ?_⟩
  rotate_left 2
  · simp only [ht, e0, intS, isI0]
    refine (if_pos (by first | omega | (simp; done) | (simp [isIntV, isBoolV, isStrV, putCells, capOf]; done) | (simp; omega) | (simp [capOf]; omega))).trans ?_
    refine (if_pos (cdec_true.2 (hI))).trans ?_
    refine (if_pos (by first | omega | (simp; done) | (simp [isIntV, isBoolV, isStrV, putCells, capOf]; done) | (simp; omega) | (simp [capOf]; omega))).trans ?_
    refine (if_neg (by first | (rw [decide_eq_true (by first | omega | (rw [wrapI64 (by omega)] <;> omega) | (rw [wrapI64 (by omega), wrapI64 (by omega)] <;> omega))]; decide) | (rw [decide_eq_false (by first | omega | (rw [wrapI64 (by omega)] <;> omega) | (rw [wrapI64 (by omega), wrapI64 (by omega)] <;> omega))]; decide))).trans ?_
    iterate 3 (refine (if_pos (by first | omega | (simp; done) | (simp [isIntV, isBoolV, isStrV, putCells, capOf]; done) | (simp; omega) | (simp [capOf]; omega))).trans ?_)
    refine (if_pos (he)).trans ?_
    iterate 2 (refine (if_neg (by first | (simp only [wrapAL, wrapAR, wrapSL, wrapSR, bne_iff_ne, ne_eq, beq_iff_eq, decide_eq_true_eq, decide_eq_false_iff_not, beq_eq_false_iff_ne, bne_eq_false_iff_eq, Decidable.not_not, ge_iff_le, gt_iff_lt, Int.not_lt, Int.not_le]; done) | (simp only [wrapAL, wrapAR, wrapSL, wrapSR, bne_iff_ne, ne_eq, beq_iff_eq, decide_eq_true_eq, decide_eq_false_iff_not, beq_eq_false_iff_ne, bne_eq_false_iff_eq, Decidable.not_not, ge_iff_le, gt_iff_lt, Int.not_lt, Int.not_le]; omega) | (simp only [wrapAL, wrapAR, wrapSL, wrapSR, bne_iff_ne, ne_eq, beq_iff_eq, decide_eq_true_eq, decide_eq_false_iff_not, beq_eq_false_iff_ne, bne_eq_false_iff_eq, Decidable.not_not, ge_iff_le, gt_iff_lt, Int.not_lt, Int.not_le]; rw [wrapI64 (by omega)] <;> omega) | (simp only [wrapAL, wrapAR, wrapSL, wrapSR, bne_iff_ne, ne_eq, beq_iff_eq, decide_eq_true_eq, decide_eq_false_iff_not, beq_eq_false_iff_ne, bne_eq_false_iff_eq, Decidable.not_not, ge_iff_le, gt_iff_lt, Int.not_lt, Int.not_le]; rw [wrapI64 (by omega), wrapI64 (by omega)] <;> omega) | (simp; done) | (simp; omega))).trans ?_)
    refine (if_pos (by first | (simp only [wrapAL, wrapAR, wrapSL, wrapSR, bne_iff_ne, ne_eq, beq_iff_eq, decide_eq_true_eq, decide_eq_false_iff_not, beq_eq_false_iff_ne, bne_eq_false_iff_eq, Decidable.not_not, ge_iff_le, gt_iff_lt, Int.not_lt, Int.not_le]; done) | (simp only [wrapAL, wrapAR, wrapSL, wrapSR, bne_iff_ne, ne_eq, beq_iff_eq, decide_eq_true_eq, decide_eq_false_iff_not, beq_eq_false_iff_ne, bne_eq_false_iff_eq, Decidable.not_not, ge_iff_le, gt_iff_lt, Int.not_lt, Int.not_le]; omega) | (simp only [wrapAL, wrapAR, wrapSL, wrapSR, bne_iff_ne, ne_eq, beq_iff_eq, decide_eq_true_eq, decide_eq_false_iff_not, beq_eq_false_iff_ne, bne_eq_false_iff_eq, Decidable.not_not, ge_iff_le, gt_iff_lt, Int.not_lt, Int.not_le]; rw [wrapI64 (by omega)] <;> omega) | (simp only [wrapAL, wrapAR, wrapSL, wrapSR, bne_iff_ne, ne_eq, beq_iff_eq, decide_eq_true_eq, decide_eq_false_iff_not, beq_eq_false_iff_ne, bne_eq_false_iff_eq, Decidable.not_not, ge_iff_le, gt_iff_lt, Int.not_lt, Int.not_le]; rw [wrapI64 (by omega), wrapI64 (by omega)] <;> omega) | (simp; done) | (simp; omega))).trans ?_
    rfl
  · refine gcFN 2 rfl rfl (par := none) rfl (by omega) (by simp) ok.ok.f rfl rfl rfl (by rw [wrapI64 (by omega)]; omega)

theorem stepFNF {m n i : Nat} {l : List Int} {q : QN} (ok : FnOk m i q) (hm : 1 ≤ m ∧ m ≤ 64) (hn : n ≤ 100) (hi : i < n) (hp : ¬ q.P.length < m) (hj : i < l.length) (he : ((l.getD i 0).tmod 2 == 0) = true) :
    ∃ vs1 h1, qround Try.prog tFN 100 5 [(51, .bool true), (76, .bool false), (78, .bool false), (85, .bool true), (91, .bool true), (112, .bool false), (113, .bool true), (133, .bool false)] noT LFN mFN (sFN m n l i q).1 (sFN m n l i q).2 = some (.norm, vs1, h1) ∧ Gc 2 vs1 h1 (sFN m n l (i + 1) ((fnPush m i q).pop)).1 (sFN m n l (i + 1) ((fnPush m i q).pop)).2 := by
  have hx := ok.ok.x
  have hl := ok.ok.n
  have hle := ok.le
  have hxi := ok.xi
  have hq : fnPush m i q = q := by unfold fnPush; exact if_neg hp
  have ht := ok.ok.t
  unfold sFN
  rw [hq, nfFNF]
  have hr := ok.ok.row (hp := hFNF0 l m q.x ((q.x - q.P.length : Nat) : Int) i n q.o q.P.length q.C) (k := 2) (md := .own) (par := none) (r := 0) (e := false) rfl
  have hI := RIxib.mk q.P (i : Int) (hFNF0 l m q.x ((q.x - q.P.length : Nat) : Int) i n q.o q.P.length q.C) _ 3 .own none hr.1 hr.2 rfl (by omega) (-1) (ixNew ok.new)
  have e0 : ((l.map (AV.int .i64))[0 + (i : Int).toNat * 1]?) = some (.int .i64 (l.getD i 0)) := by rw [show 0 + (i : Int).toNat * 1 = i by omega]; exact get_ints hj
  obtain ⟨ka, va, P', hP⟩ : ∃ ka va P', q.P = (ka, va) :: P' := by
    cases h : q.P with
    | nil => rw [h] at hp; simp at hp; omega
    | cons x P => exact ⟨x.1, x.2, P, rfl⟩
  have et : List.take 2 (List.drop (q.o + 0) q.C) = [AV.int .i64 ka, AV.bool va] := by
    rw [Nat.add_zero, ok.ok.d, hP]; rfl
  have hP2 : q.P.tail = P' := by rw [hP]; rfl
  have hP3 : q.P.length - 1 = P'.length := by rw [hP]; simp
  have hlP : q.P.length = P'.length + 1 := by rw [hP]; simp
  refine ⟨?_, ?_, ?_, ?_⟩
  rotate_left 2
  · simp only [ht, e0, intS, isI0, et]
    refine (if_pos (by first | omega | (simp; done) | (simp [isIntV, isBoolV, isStrV, putCells, capOf]; done) | (simp; omega) | (simp [capOf]; omega))).trans ?_
    refine (if_pos (cdec_true.2 (hI))).trans ?_
    refine (if_pos (by first | omega | (simp; done) | (simp [isIntV, isBoolV, isStrV, putCells, capOf]; done) | (simp; omega) | (simp [capOf]; omega))).trans ?_
    refine (if_neg (by first | (rw [decide_eq_true (by first | omega | (rw [wrapI64 (by omega)] <;> omega) | (rw [wrapI64 (by omega), wrapI64 (by omega)] <;> omega))]; decide) | (rw [decide_eq_false (by first | omega | (rw [wrapI64 (by omega)] <;> omega) | (rw [wrapI64 (by omega), wrapI64 (by omega)] <;> omega))]; decide))).trans ?_
    iterate 3 (refine (if_pos (by first | omega | (simp; done) | (simp [isIntV, isBoolV, isStrV, putCells, capOf]; done) | (simp; omega) | (simp [capOf]; omega))).trans ?_)
    refine (if_pos (he)).trans ?_
    refine (if_neg (by first | (simp only [wrapAL, wrapAR, wrapSL, wrapSR, bne_iff_ne, ne_eq, beq_iff_eq, decide_eq_true_eq, decide_eq_false_iff_not, beq_eq_false_iff_ne, bne_eq_false_iff_eq, Decidable.not_not, ge_iff_le, gt_iff_lt, Int.not_lt, Int.not_le]; done) | (simp only [wrapAL, wrapAR, wrapSL, wrapSR, bne_iff_ne, ne_eq, beq_iff_eq, decide_eq_true_eq, decide_eq_false_iff_not, beq_eq_false_iff_ne, bne_eq_false_iff_eq, Decidable.not_not, ge_iff_le, gt_iff_lt, Int.not_lt, Int.not_le]; omega) | (simp only [wrapAL, wrapAR, wrapSL, wrapSR, bne_iff_ne, ne_eq, beq_iff_eq, decide_eq_true_eq, decide_eq_false_iff_not, beq_eq_false_iff_ne, bne_eq_false_iff_eq, Decidable.not_not, ge_iff_le, gt_iff_lt, Int.not_lt, Int.not_le]; rw [wrapI64 (by omega)] <;> omega) | (simp only [wrapAL, wrapAR, wrapSL, wrapSR, bne_iff_ne, ne_eq, beq_iff_eq, decide_eq_true_eq, decide_eq_false_iff_not, beq_eq_false_iff_ne, bne_eq_false_iff_eq, Decidable.not_not, ge_iff_le, gt_iff_lt, Int.not_lt, Int.not_le]; rw [wrapI64 (by omega), wrapI64 (by omega)] <;> omega) | (simp; done) | (simp; omega))).trans ?_
    iterate 7 (refine (if_pos (by first | omega | (simp; done) | (simp [isIntV, isBoolV, isStrV, putCells, capOf]; done) | (simp; omega) | (simp [capOf]; omega))).trans ?_)
    refine (if_neg (by first | (rw [decide_eq_true (by first | omega | (rw [wrapI64 (by omega)] <;> omega) | (rw [wrapI64 (by omega), wrapI64 (by omega)] <;> omega))]; decide) | (rw [decide_eq_false (by first | omega | (rw [wrapI64 (by omega)] <;> omega) | (rw [wrapI64 (by omega), wrapI64 (by omega)] <;> omega))]; decide))).trans ?_
    refine (if_pos (by first | (simp only [wrapAL, wrapAR, wrapSL, wrapSR, bne_iff_ne, ne_eq, beq_iff_eq, decide_eq_true_eq, decide_eq_false_iff_not, beq_eq_false_iff_ne, bne_eq_false_iff_eq, Decidable.not_not, ge_iff_le, gt_iff_lt, Int.not_lt, Int.not_le]; done) | (simp only [wrapAL, wrapAR, wrapSL, wrapSR, bne_iff_ne, ne_eq, beq_iff_eq, decide_eq_true_eq, decide_eq_false_iff_not, beq_eq_false_iff_ne, bne_eq_false_iff_eq, Decidable.not_not, ge_iff_le, gt_iff_lt, Int.not_lt, Int.not_le]; omega) | (simp only [wrapAL, wrapAR, wrapSL, wrapSR, bne_iff_ne, ne_eq, beq_iff_eq, decide_eq_true_eq, decide_eq_false_iff_not, beq_eq_false_iff_ne, bne_eq_false_iff_eq, Decidable.not_not, ge_iff_le, gt_iff_lt, Int.not_lt, Int.not_le]; rw [wrapI64 (by omega)] <;> omega) | (simp only [wrapAL, wrapAR, wrapSL, wrapSR, bne_iff_ne, ne_eq, beq_iff_eq, decide_eq_true_eq, decide_eq_false_iff_not, beq_eq_false_iff_ne, bne_eq_false_iff_eq, Decidable.not_not, ge_iff_le, gt_iff_lt, Int.not_lt, Int.not_le]; rw [wrapI64 (by omega), wrapI64 (by omega)] <;> omega) | (simp; done) | (simp; omega))).trans ?_
    iterate 2 (refine (if_neg (by first | (simp only [wrapAL, wrapAR, wrapSL, wrapSR, bne_iff_ne, ne_eq, beq_iff_eq, decide_eq_true_eq, decide_eq_false_iff_not, beq_eq_false_iff_ne, bne_eq_false_iff_eq, Decidable.not_not, ge_iff_le, gt_iff_lt, Int.not_lt, Int.not_le]; done) | (simp only [wrapAL, wrapAR, wrapSL, wrapSR, bne_iff_ne, ne_eq, beq_iff_eq, decide_eq_true_eq, decide_eq_false_iff_not, beq_eq_false_iff_ne, bne_eq_false_iff_eq, Decidable.not_not, ge_iff_le, gt_iff_lt, Int.not_lt, Int.not_le]; omega) | (simp only [wrapAL, wrapAR, wrapSL, wrapSR, bne_iff_ne, ne_eq, beq_iff_eq, decide_eq_true_eq, decide_eq_false_iff_not, beq_eq_false_iff_ne, bne_eq_false_iff_eq, Decidable.not_not, ge_iff_le, gt_iff_lt, Int.not_lt, Int.not_le]; rw [wrapI64 (by omega)] <;> omega) | (simp only [wrapAL, wrapAR, wrapSL, wrapSR, bne_iff_ne, ne_eq, beq_iff_eq, decide_eq_true_eq, decide_eq_false_iff_not, beq_eq_false_iff_ne, bne_eq_false_iff_eq, Decidable.not_not, ge_iff_le, gt_iff_lt, Int.not_lt, Int.not_le]; rw [wrapI64 (by omega), wrapI64 (by omega)] <;> omega) | (simp; done) | (simp; omega))).trans ?_)
    refine (if_pos (by first | (simp only [wrapAL, wrapAR, wrapSL, wrapSR, bne_iff_ne, ne_eq, beq_iff_eq, decide_eq_true_eq, decide_eq_false_iff_not, beq_eq_false_iff_ne, bne_eq_false_iff_eq, Decidable.not_not, ge_iff_le, gt_iff_lt, Int.not_lt, Int.not_le]; done) | (simp only [wrapAL, wrapAR, wrapSL, wrapSR, bne_iff_ne, ne_eq, beq_iff_eq, decide_eq_true_eq, decide_eq_false_iff_not, beq_eq_false_iff_ne, bne_eq_false_iff_eq, Decidable.not_not, ge_iff_le, gt_iff_lt, Int.not_lt, Int.not_le]; omega) | (simp only [wrapAL, wrapAR, wrapSL, wrapSR, bne_iff_ne, ne_eq, beq_iff_eq, decide_eq_true_eq, decide_eq_false_iff_not, beq_eq_false_iff_ne, bne_eq_false_iff_eq, Decidable.not_not, ge_iff_le, gt_iff_lt, Int.not_lt, Int.not_le]; rw [wrapI64 (by omega)] <;> omega) | (simp only [wrapAL, wrapAR, wrapSL, wrapSR, bne_iff_ne, ne_eq, beq_iff_eq, decide_eq_true_eq, decide_eq_false_iff_not, beq_eq_false_iff_ne, bne_eq_false_iff_eq, Decidable.not_not, ge_iff_le, gt_iff_lt, Int.not_lt, Int.not_le]; rw [wrapI64 (by omega), wrapI64 (by omega)] <;> omega) | (simp; done) | (simp; omega))).trans ?_
    rfl
  · refine gcFN 2 rfl rfl (par := none) rfl (by omega) (by simp) ok.ok.f (by simp [FQ.pop]) (by simp [FQ.pop]) (by simp only [FQ.pop, List.length_tail]; rw [wrapI64 (by omega)]; omega) (by rw [wrapI64 (by omega)]; omega)


theorem nextFN {M N i : Nat} (l : List Int) (hM : 1 ≤ M ∧ M ≤ 64) (hN : N ≤ 100) (hi : i < N) : ∃ pr vs1 h1, qround Try.prog tFN 100 5 pr noT LFN mFN (sFN M N l i (fnSt M l i)).1 (sFN M N l i (fnSt M l i)).2 = some (.norm, vs1, h1) ∧ Gc 2 vs1 h1 (sFN M N l (i + 1) (fnSt M l (i + 1))).1 (sFN M N l (i + 1) (fnSt M l (i + 1))).2 := by
  have ok := fnSt_ok l hM.1 i
  have e : fnSt M l (i + 1) = if fnPops l i = true then (fnPush M i (fnSt M l i)).pop else fnPush M i (fnSt M l i) := rfl
  rw [e]
  generalize fnSt M l i = q at ok
  by_cases hp : q.P.length < M
  · by_cases hj : i < l.length
    · cases he : ((l.getD i 0).tmod 2 == 0)
      · rw [if_neg (by simp only [fnPops, he, Bool.and_false]; decide)]
        exact ⟨_, stepFNB ok hM hN hi hp hj he⟩
      · rw [if_pos (by simp only [fnPops, he, Bool.and_true]; exact decide_eq_true hj)]
        exact ⟨_, stepFNC ok hM hN hi hp hj he⟩
    · rw [if_neg (by simp only [fnPops, decide_eq_false hj, Bool.false_and]; decide)]
      exact ⟨_, stepFNA ok hM hN hi hp hj⟩
  · by_cases hj : i < l.length
    · cases he : ((l.getD i 0).tmod 2 == 0)
      · rw [if_neg (by simp only [fnPops, he, Bool.and_false]; decide)]
        exact ⟨_, stepFNE ok hM hN hi hp hj he⟩
      · rw [if_pos (by simp only [fnPops, he, Bool.and_true]; exact decide_eq_true hj)]
        exact ⟨_, stepFNF ok hM hN hi hp hj he⟩
    · rw [if_neg (by simp only [fnPops, decide_eq_false hj, Bool.false_and]; decide)]
      exact ⟨_, stepFND ok hM hN hi hp hj⟩
theorem runFifoNumbers (m n : Int) (l : List Int) (hm : -9223372036854775808 ≤ m ∧ m < 9223372036854775808) (hn : -9223372036854775808 ≤ n ∧ n < 9223372036854775808) (hw : ∀ z ∈ l, (Lit.int .i64 z).wf = true) :
    ∃ h', Runs Try.prog 4 [.int .i64 m, .int .i64 n, .sl (some (0, 0)) l.length 0 false] [farI l] (.bool true) h' := by
  by_cases hb : m < 1 ∨ 64 < m ∨ n < 0 ∨ 100 < n ∨ 50 < l.length
  · refine Runs.valT0 tFNOk (F := 100) (n := 5) (pr := [(36, .bool true)]) ((nfFNl l m n _).trans ?_)
    by_cases h1 : m < 1
    · exact if_pos (by simp; omega)
    refine (if_neg (by simp; omega)).trans ?_
    by_cases h2 : 64 < m
    · exact if_pos (by simp; omega)
    refine (if_neg (by simp; omega)).trans ?_
    by_cases h3 : n < 0
    · exact if_pos (by simp; omega)
    refine (if_neg (by simp; omega)).trans ?_
    by_cases h4 : 100 < n
    · exact if_pos (by simp; omega)
    refine (if_neg (by simp; omega)).trans ?_
    exact if_pos (by simp; omega)
  obtain ⟨M, rfl⟩ : ∃ M : Nat, m = M := ⟨m.toNat, by omega⟩
  obtain ⟨N, rfl⟩ : ∃ N : Nat, n = N := ⟨n.toNat, by omega⟩
  have hM : 1 ≤ M ∧ M ≤ 64 := by omega
  have hN : N ≤ 100 := by omega
  have ok := fnSt_ok l hM.1
  have key : True → ∃ vs2 h2, Pre 2 (vFN M N l 0 0 0) [farI l, .cells [.int .i64 M, .int .i64 0, .sl none 0 0 true] 3 .own none] vs2 h2 ∧ ∃ k, GReach (roundG Try.prog (deepT Try.prog tFN 100 5) (lsT noT) LFN mFN) 2 k vs2 h2 (.exit 0) (sFN M N l N (fnSt M l N)).1 (sFN M N l N (fnSt M l N)).2 := by
    intro _
    refine ⟨(sFN M N l 0 (fnSt M l 0)).1, (sFN M N l 0 (fnSt M l 0)).2, .void 2 _ _ _ _ _ _ (NRs.refl _) (.cons _ _ _ _ (.same _) (.cons _ _ _ _ (.cells _ _ _ _ _ (.same _ _ _ (.same _ _ _ (.void _ _ _ .nil)))) (.cons _ _ _ _ (.same _) .nil))) (.done _ _), ?_⟩
    refine loop_T (fun i => sFN M N l i (fnSt M l i)) (N := N) (by simp) (fun i hi => ?_) ⟨_, _, _, (nfFNs l M _ _ N N _ _ _).trans (if_pos (by simp)), Gc.refl⟩
    exact nextFN l hM hN hi
  have lp : loopsOf (bodyOf Try.prog 4) = [LFN] := by kernel_rfl
  refine Runs.valT tFNOk (F := 100) (n := 5) (pr := [(36, .bool false), (48, .bool false)]) (only (k := 8) lp (fixP_T tFNOk (F := 100) (n := 5) (LS := noT) (noLoops (by kernel_rfl)) key)) ?_
  refine (nfFNm l M N _ _ _ _ _ _ _).trans ?_
  iterate 4 (refine (if_neg (by first | (simp; done) | (simp; omega))).trans ?_)
  refine (if_pos (by simp; omega)).trans ?_
  iterate 2 (refine (if_neg (by simp; omega)).trans ?_)
  exact if_pos (cdec_true.2 ⟨trivial, rfl, rfl⟩)


end Go.Proofs.Ytdildbadafdbgaa.L