/- FifoActs' run. -/
import Derived.Test.YtdildbadafdbgaaFifoActsP
import Derived.Test.YtdildbadafdbgaaAddrB
import Derived.Test.YtdildbadafdbgaaFifoActsR
set_option autoImplicit false
set_option maxRecDepth 100000
set_option linter.unusedVariables false
set_option linter.unusedSimpArgs false
namespace Go.Proofs.Ytdildbadafdbgaa.L
open Go Go.Abs

theorem itW_cells : ∀ (f : Nat) (P : PS), (itW f P).all AV.isCell = true
  | _, [] => rfl
  | f, p :: P => by
    have := itW_cells (f + 1) P
    simp only [itW, List.cons_append, List.nil_append, List.all_cons, this, Bool.and_true]; rfl
def nmA (z : Int) : List UInt8 := List.map byteD [AV.int IntKind.u8 (IntKind.u8.wrap (IntKind.i64.wrap (97 + z % 9)))]
theorem cA1 (n : Nat) : ((cntA n 1 : Nat) : Int) = if (n : Int) < 1 then (n : Int) else 1 := by
  unfold cntA; rw [if_neg (by omega)]; split <;> omega
theorem cAm (n : Nat) : cntA n (-1) = n := by unfold cntA; rw [if_pos (by omega)]
theorem itmOf_fl : ∀ (P : PS) (c : Nat), itmOf (flS P) c = itC (P.take c)
  | [], c => by cases c <;> rfl
  | p :: P, 0 => rfl
  | p :: P, c + 1 => by
    have := itmOf_fl P c
    show AV.str p.1 :: AV.int .i64 p.2 :: AV.int .i64 0 :: itmOf (flS P) c = _
    rw [this]; rfl
theorem keysW_it : ∀ (f : Nat) (P : PS), keysW (itW f P) = P.map (·.1)
  | _, [] => rfl
  | f, p :: P => by
    show p.1 :: keysW (itW (f + 1) P) = _
    rw [keysW_it]; rfl
theorem hadF_eq {P : PS} {f ow n : Nat} {D : List AV} (w : WOk P f ow D) (hn : n = P.length) (k : List UInt8) (a0 a1 a2 a4 a5 a7 a8 : AV) (B0 B1 B2 B4 : ABlk) (md : Md) (par : Option Nat) :
    hadF [a0, a1, a2, .sl (some (3, ow)) n 0 false, a4, a5, .str k, a7, a8] [B0, B1, B2, .cells D 3 md par, B4] = ixIxsi P k := by
  subst hn
  have hW : rowOf [B0, B1, B2, .cells D 3 md par, B4] (.sl (some (3, ow)) P.length 0 false) = itW f P := by
    show List.take (P.length * 3) (List.drop ow D) = _
    rw [w.d]; exact List.take_of_length_le (by simp)
  unfold hadF
  simp only [hW, keysW_it, List.findIdx_map, List.length_map]
  rfl
structure FS where
  q : QS
  ow : Nat
  D : List AV
structure FaOk (m i : Nat) (s : FS) : Prop where
  ok : s.q.Ok AV.str (AV.int .i64)
  w : WOk s.q.P (s.q.x - s.q.P.length) s.ow s.D
  d : Dist s.q.P
  le : s.q.P.length ≤ m
  xi : s.q.x ≤ i
def faPush (m i : Nat) (k : List UInt8) (s : FS) : FS :=
  if 0 ≤ ixIxsi s.q.P k then s else if m ≤ s.q.P.length then s else ⟨s.q.push AV.str (AV.int .i64) k i, 0, itW (s.q.x - s.q.P.length) (s.q.P ++ [(k, (i : Int))])⟩
def faPop (s : FS) : FS := if s.q.P.length = 0 then s else ⟨s.q.pop, s.ow + 3, s.D⟩
def faStep (m i : Nat) (z : Int) (s : FS) : FS := if (z % 9 == 8) = true then faPop s else faPush m i (nmA z) s
def faSt (m : Nat) (l : List Int) : Nat → FS
  | 0 => ⟨⟨0, [], 0, []⟩, 0, []⟩
  | i + 1 => faStep m i (l.getD i 0) (faSt m l i)
theorem ix_nn {P : PS} {k : List UInt8} : 0 ≤ ixIxsi P k ↔ ∃ p ∈ P, p.1 = k := by
  constructor
  · intro h
    rcases ix_neg (P := P) (k := k) with e | ⟨e, _⟩
    · omega
    · exact ⟨P[atIxsi P k], List.getElem_mem e, at_key e⟩
  · rintro ⟨p, hp, hk⟩
    obtain ⟨j, hj, rfl⟩ := List.mem_iff_getElem.1 hp
    have := at_le hj hk
    unfold ixIxsi
    rw [if_pos (by omega)]; omega
theorem push_ok {m i : Nat} {k : List UInt8} {s : FS} (h : FaOk m i s) : FaOk m (i + 1) (faPush m i k s) := by
  have hw : FaOk m (i + 1) s := ⟨h.ok, h.w, h.d, h.le, by have := h.xi; omega⟩
  unfold faPush
  split
  · exact hw
  · rename_i hk
    split
    · exact hw
    · rename_i hm
      have hx := h.ok.x
      refine ⟨h.ok.push (fun _ => rfl) (fun _ => rfl) _ _, ?_, ?_, by simp [FQ.push]; omega, by simp [FQ.push]; have := h.xi; omega⟩
      · have e : (s.q.push AV.str (AV.int .i64) k (i : Int)).x - (s.q.push AV.str (AV.int .i64) k (i : Int)).P.length = s.q.x - s.q.P.length := by simp [FQ.push]
        rw [e]
        exact ⟨by simp [FQ.push], by simp [FQ.push], itW_frees _ _⟩
      · show Dist (s.q.P ++ [(k, (i : Int))])
        unfold Dist
        rw [List.pairwise_append]
        refine ⟨h.d, by simp, fun a ha b hb => ?_⟩
        simp only [List.mem_singleton] at hb
        subst hb
        exact fun e => hk (ix_nn.2 ⟨a, ha, e⟩)
theorem pop_ok {m i : Nat} {s : FS} (h : FaOk m i s) : FaOk m (i + 1) (faPop s) := by
  unfold faPop
  split
  · exact ⟨h.ok, h.w, h.d, h.le, by have := h.xi; omega⟩
  · rename_i hn
    have hw := h.w
    have hx := h.ok.x
    have hd := h.d
    have ho := h.ok.pop (by omega)
    have hl := h.le
    have hxi := h.xi
    obtain ⟨⟨x, P, o, C⟩, ow, D⟩ := s
    cases P with
    | nil => simp at hn
    | cons a P =>
    refine ⟨ho, ?_, (List.pairwise_cons.1 hd).2, ?_, ?_⟩
    · have e : x - P.length = x - (a :: P).length + 1 := by simp at hx ⊢; omega
      show WOk P (x - P.length) (ow + 3) D
      rw [e]
      refine ⟨?_, ?_, hw.f⟩
      · have := hw.d
        rw [← List.drop_drop, this]; rfl
      · have := hw.n
        simp at this ⊢; omega
    · simp [FQ.pop] at hl ⊢; omega
    · simp [FQ.pop] at hxi ⊢; omega
theorem step_ok {m i : Nat} {z : Int} {s : FS} (h : FaOk m i s) : FaOk m (i + 1) (faStep m i z s) := by
  unfold faStep
  split
  · exact pop_ok h
  · exact push_ok h
theorem faSt_ok (m : Nat) (l : List Int) : ∀ i, FaOk m i (faSt m l i)
  | 0 => ⟨⟨rfl, rfl, rfl, by simp [faSt]⟩, ⟨rfl, rfl, rfl⟩, by simp [faSt, Dist], by simp [faSt], by simp [faSt]⟩
  | i + 1 => step_ok (faSt_ok m l i)
def sFA (m : Nat) (l : List Int) (i : Nat) (s : FS) : List AV × AHeap := (vFA0 m l 3 s.ow s.q.P.length s.q.x i, hFAq l m s.q.x 2 s.q.o s.q.P.length s.q.C s.D)
theorem gcFA {m : Nat} {l : List Int} {x i : Int} {x' i' : Nat} (c w : Nat) {o ow k k2 n : Nat} {C D : List AV} {h1 : AHeap} {pc pd : Option Nat} (b0 : h1[0]? = some (farI l)) (b1 : h1[1]? = some (.cells [.int .i64 m, .int .i64 x, .sl (some (c, o)) k 0 false] 3 .own none)) (b2 : h1[c]? = some (.cells C 2 .own pc)) (b3 : h1[w]? = some (.cells D 3 .own pd))
    (hc : 2 ≤ c) (hw : c < w) (hpc : ∀ q, pc = some q → posOf [0, 1, c, w] q = none) (hpd : ∀ q, pd = some q → posOf [0, 1, c, w] q = none) (hC : AV.frees C = true) (hD : AV.frees D = true) (hk : k = n) (hk2 : k2 = n) (hx : x = x') (hi : i = i') :
    Gc 2 [.int .i64 m, .sl (some (0, 0)) l.length 0 false, .ptr (some (1, 0)), .sl (some (w, ow)) k2 0 false, .int .i64 x, .int .i64 i] h1 (vFA0 m l 3 ow n x' i') (hFAq l m x' 2 o n C D) := by
  subst hx hi hk hk2
  have hn : [0, 1, c, w].Nodup := by simp; omega
  exact Gc.by [0, 1, c, w] rfl hn (.cons _ _ _ _ (.free _ rfl) (.cons _ _ _ _ (.sl _ _ _ _ _ _ rfl) (.cons _ _ _ _ (.ptr _ _ _ rfl) (.cons _ _ _ _ (.sl _ _ _ _ _ _ (posOf_mem hn rfl)) (.free _ rfl))))) (.cons _ _ _ _ _ b0 (.row (frees_ints _) (by simp)) (.cons _ _ _ _ _ b1 (.cells _ _ _ _ _ _ (.cons _ _ _ _ (.free _ rfl) (.cons _ _ _ _ (.free _ rfl) (.cons _ _ _ _ (.sl _ _ _ _ _ _ (posOf_mem hn rfl)) .nil))) (by simp)) (.cons _ _ _ _ _ b2 (.row hC (fun q j h1 h2 => by rw [hpc q h1] at h2; cases h2)) (.cons _ _ _ _ _ b3 (.row hD (fun q j h1 h2 => by rw [hpd q h1] at h2; cases h2)) .nil))))

theorem stepFAH {m i : Nat} {l : List Int} {s : FS} (h : FaOk m i s) (hm : 1 ≤ m ∧ m ≤ 256) (hl : l.length ≤ 100) (hi : i < l.length) (hz : (l.getD i 0 % 9 == 8) = false) (hk : 0 ≤ ixIxsi s.q.P (nmA (l.getD i 0))) :
    ∃ vs1 h1, qround Try.prog tFA 100 5 [(60, .bool true), (77, .bool false), (163, .bool true), (169, .bool false), (184, .bool true), (224, .bool false)] lsFA FA0 mFA0 (sFA m l i s).1 (sFA m l i s).2 = some (.norm, vs1, h1) ∧ Gc 2 vs1 h1 (sFA m l (i + 1) (faStep m i (l.getD i 0) s)).1 (sFA m l (i + 1) (faStep m i (l.getD i 0) s)).2 := by
  have e0 : ((l.map (AV.int .i64))[0 + (i : Int).toNat * 1]?) = some (.int .i64 (l.getD i 0)) := by rw [show 0 + (i : Int).toNat * 1 = i by omega]; exact get_ints hi
  have ok' := step_ok (z := l.getD i 0) h
  have hx := h.ok.x
  have hle := h.le
  have hxi := h.xi
  have hn := h.ok.n
  have hwn := h.w.n
  have hwi : IntKind.i64.wrap ((i : Int) + 1) = ((i + 1 : Nat) : Int) := by rw [wrapI64 (by omega)]; omega
  have hne : 0 < s.q.P.length := by obtain ⟨p, hp, _⟩ := ix_nn.1 hk; exact List.length_pos_of_mem hp
  have hs : faStep m i (l.getD i 0) s = s := by
    unfold faStep faPush
    rw [if_neg (by rw [hz]; decide)]
    rw [if_pos hk]
  rw [hs]
  have L1 := saysA1 h.w h.d (by omega) m s.q.x i l (nmA (l.getD i 0)) (farI l) (.cells [.int .i64 m, .int .i64 s.q.x, .sl (some (2, s.q.o)) s.q.P.length 0 false] 3 .own none) (.cells s.q.C 2 .own none) (.cells [AV.int IntKind.u8 (IntKind.u8.wrap (IntKind.i64.wrap (97 + l.getD i 0 % 9)))] 1 .own none)
  have L2 := saysA2a h.ok h.w h.d (by omega) m s.q.x s.q.x i l (cntA s.q.P.length 1) (farI l) (.cells [AV.int IntKind.u8 (IntKind.u8.wrap (IntKind.i64.wrap (97 + l.getD i 0 % 9)))] 1 .own none) (.cells [.str (nmA (l.getD i 0))] 1 .own none) (.cells (itC (s.q.P.take (cntA s.q.P.length 1))) 3 .own none) (by
    intro b hb
    simp only [hFA2a, List.mem_cons, List.not_mem_nil, or_false] at hb
    rcases hb with rfl | rfl | rfl | rfl | rfl | rfl | rfl | rfl
    · exact okU_free (frees_ints _) (by simp)
    · exact ⟨rfl, by simp⟩
    · exact okU_free h.ok.f (by simp)
    · exact okU_free h.w.f (by simp)
    · exact okU_free rfl (by simp)
    · exact okU_free rfl (by simp)
    · exact okU_free (itC_frees _) (by simp)
    · exact okU_free (itC_frees _) (by simp))
  have hr := fun (hp : AHeap) (hk : hp[2]? = some (.cells s.q.C 2 .own none)) => h.ok.row (hp := hp) (k := 2) (md := .own) (par := none) (r := 0) (e := false) hk
  have hI := RIxsi.mk s.q.P (nmA (l.getD i 0)) [farI l, .cells [.int .i64 m, .int .i64 s.q.x, .sl (some (2, s.q.o)) s.q.P.length 0 false] 3 .own none, .cells s.q.C 2 .own none, .cells s.D 3 .own none, .cells [AV.int IntKind.u8 (IntKind.u8.wrap (IntKind.i64.wrap (97 + l.getD i 0 % 9)))] 1 .own none, .cells [.str (nmA (l.getD i 0))] 1 .own none] _ 5 .own none (hr _ rfl).1 (hr _ rfl).2 rfl (by omega) _ rfl
  have hc := cIxsi hI
  have hA1 : ∀ hh : AHeap, hh[1]? = some (.cells [.int .i64 m, .int .i64 s.q.x, .sl (some (2, s.q.o)) s.q.P.length 0 false] 3 .own none) → hh[2]? = some (.cells s.q.C 2 .own none) → AllR [.ptr (some (1, 0)), .int .i64 (-1)] hh (.sl (some (hh.length, 0)) s.q.P.length 0 false) [.cells (itC s.q.P) 3 .own none] := fun hh g1 g2 => AllR.mk s.q.P (-1) _ _ hh 1 _ .own 3 none _ g1 rfl (hr hh g2).1 (hr hh g2).2 (by omega) (by omega) _ (cAm _) rfl _ (by rw [List.take_length])
  have hA2 : ∀ hh : AHeap, hh[1]? = some (.cells [.int .i64 m, .int .i64 s.q.x, .sl (some (2, s.q.o)) s.q.P.length 0 false] 3 .own none) → hh[2]? = some (.cells s.q.C 2 .own none) → AllR [.ptr (some (1, 0)), .int .i64 1] hh (.sl (some (hh.length, 0)) (cntA s.q.P.length 1) 0 false) [.cells (itC (s.q.P.take (cntA s.q.P.length 1))) 3 .own none] := fun hh g1 g2 => AllR.mk s.q.P 1 _ _ hh 1 _ .own 3 none _ g1 rfl (hr hh g2).1 (hr hh g2).2 (by omega) (by omega) _ rfl rfl _ rfl
  obtain ⟨_, _, d2⟩ := h.w.get hne
  have d2' : s.D[s.ow + 0 + 2]? = some (.int .i64 ((s.q.x - s.q.P.length : Nat) : Int)) := by simpa using d2
  have hwx : IntKind.i64.wrap ((s.q.x : Int) - (s.q.P.length : Int)) = ((s.q.x - s.q.P.length : Nat) : Int) := by rw [wrapI64 (by omega)]; omega
  have hrow : List.take (s.q.P.length * 2) (List.drop s.q.o s.q.C) = flS s.q.P := h.ok.t
  have hnm : List.map byteD [AV.int IntKind.u8 (IntKind.u8.wrap (IntKind.i64.wrap (97 + l.getD i 0 % 9)))] = nmA (l.getD i 0) := rfl
  show ∃ vs1 h1, qround Try.prog _ 100 5 _ _ FA0 mFA0 (vFA0 m l 3 s.ow s.q.P.length s.q.x i) (hFAq l m s.q.x 2 s.q.o s.q.P.length s.q.C s.D) = some (.norm, vs1, h1) ∧ _
  rw [nfFAH]
  refine ⟨?_, ?_, ?_, ?_⟩
  rotate_left 2
  · simp only [hFAH0, hFAH1, hFAH2, hFAH3, hFAH4, hFAH5, hFAH6, e0, intS, isI0, d2', hwx, hwi, opq_eq, nOf_sl, rowOf, List.getElem?_cons_succ, List.getElem?_cons_zero, hrow, cAm, itmOf_fl, List.take_length, hnm, hadF_eq h.w rfl]
    iterate 5 (refine (if_pos (by first | omega | (simp; done) | (simp [isIntV, isBoolV, isStrV, putCells, capOf]; done) | (simp; omega) | (simp [capOf]; omega))).trans ?_)
    refine (if_pos (hz)).trans ?_
    refine (if_pos (cdec_true.2 L1)).trans ?_
    refine (if_pos (cdec_true.2 (hc.symm ▸ hI))).trans ?_
    refine (if_pos (decide_eq_true (Int.le_trans hk (Int.le_of_eq hc.symm)))).trans ?_
    refine (if_pos (decide_eq_true hk)).trans ?_
    iterate 3 (refine (if_pos (by first | omega | (simp; done) | (simp [isIntV, isBoolV, isStrV, putCells, capOf]; done) | (simp; omega) | (simp [capOf]; omega))).trans ?_)
    refine (if_pos (cdec_true.2 (hA1 _ rfl rfl))).trans ?_
    refine (if_pos (cdec_true.2 (hA2 _ rfl rfl))).trans ?_
    iterate 4 (refine (if_neg (by first | (simp only [wrapAL, wrapAR, wrapSL, wrapSR, bne_iff_ne, ne_eq, beq_iff_eq, decide_eq_true_eq, decide_eq_false_iff_not, beq_eq_false_iff_ne, bne_eq_false_iff_eq, Decidable.not_not, ge_iff_le, gt_iff_lt, Int.not_lt, Int.not_le]; done) | (simp only [wrapAL, wrapAR, wrapSL, wrapSR, bne_iff_ne, ne_eq, beq_iff_eq, decide_eq_true_eq, decide_eq_false_iff_not, beq_eq_false_iff_ne, bne_eq_false_iff_eq, Decidable.not_not, ge_iff_le, gt_iff_lt, Int.not_lt, Int.not_le]; omega) | (simp only [wrapAL, wrapAR, wrapSL, wrapSR, bne_iff_ne, ne_eq, beq_iff_eq, decide_eq_true_eq, decide_eq_false_iff_not, beq_eq_false_iff_ne, bne_eq_false_iff_eq, Decidable.not_not, ge_iff_le, gt_iff_lt, Int.not_lt, Int.not_le]; rw [wrapI64 (by omega)] <;> omega) | (simp only [wrapAL, wrapAR, wrapSL, wrapSR, bne_iff_ne, ne_eq, beq_iff_eq, decide_eq_true_eq, decide_eq_false_iff_not, beq_eq_false_iff_ne, bne_eq_false_iff_eq, Decidable.not_not, ge_iff_le, gt_iff_lt, Int.not_lt, Int.not_le]; rw [wrapI64 (by omega), wrapI64 (by omega)] <;> omega) | (simp; done) | (simp; omega))).trans ?_)
    refine (if_pos (by rw [if_neg (by decide)]; exact bne_eq_false_iff_eq.2 (cA1 _))).trans ?_
    refine (if_pos (cdec_true.2 L2)).trans ?_
    rfl
  · exact gcFA 2 3 rfl rfl rfl rfl (by omega) (by omega) (by simp) (by simp) h.ok.f h.w.f rfl rfl rfl rfl

theorem stepFAF {m i : Nat} {l : List Int} {s : FS} (h : FaOk m i s) (hm : 1 ≤ m ∧ m ≤ 256) (hl : l.length ≤ 100) (hi : i < l.length) (hz : (l.getD i 0 % 9 == 8) = false) (hk : ixIxsi s.q.P (nmA (l.getD i 0)) < 0) (hf : m ≤ s.q.P.length) :
    ∃ vs1 h1, qround Try.prog tFA 100 5 [(60, .bool true), (77, .bool false), (163, .bool false), (174, .bool true), (180, .bool false), (184, .bool true), (224, .bool false)] lsFA FA0 mFA0 (sFA m l i s).1 (sFA m l i s).2 = some (.norm, vs1, h1) ∧ Gc 2 vs1 h1 (sFA m l (i + 1) (faStep m i (l.getD i 0) s)).1 (sFA m l (i + 1) (faStep m i (l.getD i 0) s)).2 := by
  have e0 : ((l.map (AV.int .i64))[0 + (i : Int).toNat * 1]?) = some (.int .i64 (l.getD i 0)) := by rw [show 0 + (i : Int).toNat * 1 = i by omega]; exact get_ints hi
  have ok' := step_ok (z := l.getD i 0) h
  have hx := h.ok.x
  have hle := h.le
  have hxi := h.xi
  have hn := h.ok.n
  have hwn := h.w.n
  have hwi : IntKind.i64.wrap ((i : Int) + 1) = ((i + 1 : Nat) : Int) := by rw [wrapI64 (by omega)]; omega
  have hne : 0 < s.q.P.length := by omega
  have hs : faStep m i (l.getD i 0) s = s := by
    unfold faStep faPush
    rw [if_neg (by rw [hz]; decide)]
    rw [if_neg (by omega), if_pos hf]
  rw [hs]
  have L1 := saysA1 h.w h.d (by omega) m s.q.x i l (nmA (l.getD i 0)) (farI l) (.cells [.int .i64 m, .int .i64 s.q.x, .sl (some (2, s.q.o)) s.q.P.length 0 false] 3 .own none) (.cells s.q.C 2 .own none) (.cells [AV.int IntKind.u8 (IntKind.u8.wrap (IntKind.i64.wrap (97 + l.getD i 0 % 9)))] 1 .own none)
  have L2 := saysA2a h.ok h.w h.d (by omega) m s.q.x s.q.x i l (cntA s.q.P.length 1) (farI l) (.cells [AV.int IntKind.u8 (IntKind.u8.wrap (IntKind.i64.wrap (97 + l.getD i 0 % 9)))] 1 .own none) (.cells [.str (nmA (l.getD i 0))] 1 .own none) (.cells (itC (s.q.P.take (cntA s.q.P.length 1))) 3 .own none) (by
    intro b hb
    simp only [hFA2a, List.mem_cons, List.not_mem_nil, or_false] at hb
    rcases hb with rfl | rfl | rfl | rfl | rfl | rfl | rfl | rfl
    · exact okU_free (frees_ints _) (by simp)
    · exact ⟨rfl, by simp⟩
    · exact okU_free h.ok.f (by simp)
    · exact okU_free h.w.f (by simp)
    · exact okU_free rfl (by simp)
    · exact okU_free rfl (by simp)
    · exact okU_free (itC_frees _) (by simp)
    · exact okU_free (itC_frees _) (by simp))
  have hr := fun (hp : AHeap) (hk : hp[2]? = some (.cells s.q.C 2 .own none)) => h.ok.row (hp := hp) (k := 2) (md := .own) (par := none) (r := 0) (e := false) hk
  have hI := RIxsi.mk s.q.P (nmA (l.getD i 0)) [farI l, .cells [.int .i64 m, .int .i64 s.q.x, .sl (some (2, s.q.o)) s.q.P.length 0 false] 3 .own none, .cells s.q.C 2 .own none, .cells s.D 3 .own none, .cells [AV.int IntKind.u8 (IntKind.u8.wrap (IntKind.i64.wrap (97 + l.getD i 0 % 9)))] 1 .own none, .cells [.str (nmA (l.getD i 0))] 1 .own none] _ 5 .own none (hr _ rfl).1 (hr _ rfl).2 rfl (by omega) _ rfl
  have hc := cIxsi hI
  have hA1 : ∀ hh : AHeap, hh[1]? = some (.cells [.int .i64 m, .int .i64 s.q.x, .sl (some (2, s.q.o)) s.q.P.length 0 false] 3 .own none) → hh[2]? = some (.cells s.q.C 2 .own none) → AllR [.ptr (some (1, 0)), .int .i64 (-1)] hh (.sl (some (hh.length, 0)) s.q.P.length 0 false) [.cells (itC s.q.P) 3 .own none] := fun hh g1 g2 => AllR.mk s.q.P (-1) _ _ hh 1 _ .own 3 none _ g1 rfl (hr hh g2).1 (hr hh g2).2 (by omega) (by omega) _ (cAm _) rfl _ (by rw [List.take_length])
  have hA2 : ∀ hh : AHeap, hh[1]? = some (.cells [.int .i64 m, .int .i64 s.q.x, .sl (some (2, s.q.o)) s.q.P.length 0 false] 3 .own none) → hh[2]? = some (.cells s.q.C 2 .own none) → AllR [.ptr (some (1, 0)), .int .i64 1] hh (.sl (some (hh.length, 0)) (cntA s.q.P.length 1) 0 false) [.cells (itC (s.q.P.take (cntA s.q.P.length 1))) 3 .own none] := fun hh g1 g2 => AllR.mk s.q.P 1 _ _ hh 1 _ .own 3 none _ g1 rfl (hr hh g2).1 (hr hh g2).2 (by omega) (by omega) _ rfl rfl _ rfl
  obtain ⟨_, _, d2⟩ := h.w.get hne
  have d2' : s.D[s.ow + 0 + 2]? = some (.int .i64 ((s.q.x - s.q.P.length : Nat) : Int)) := by simpa using d2
  have hwx : IntKind.i64.wrap ((s.q.x : Int) - (s.q.P.length : Int)) = ((s.q.x - s.q.P.length : Nat) : Int) := by rw [wrapI64 (by omega)]; omega
  have hrow : List.take (s.q.P.length * 2) (List.drop s.q.o s.q.C) = flS s.q.P := h.ok.t
  have hnm : List.map byteD [AV.int IntKind.u8 (IntKind.u8.wrap (IntKind.i64.wrap (97 + l.getD i 0 % 9)))] = nmA (l.getD i 0) := rfl
  show ∃ vs1 h1, qround Try.prog _ 100 5 _ _ FA0 mFA0 (vFA0 m l 3 s.ow s.q.P.length s.q.x i) (hFAq l m s.q.x 2 s.q.o s.q.P.length s.q.C s.D) = some (.norm, vs1, h1) ∧ _
  rw [nfFAF]
  refine ⟨?_, ?_, ?_, ?_⟩
  rotate_left 2
  · simp only [hFAF0, hFAF1, hFAF2, hFAF3, hFAF4, hFAF5, hFAF6, e0, intS, isI0, d2', hwx, hwi, opq_eq, nOf_sl, rowOf, List.getElem?_cons_succ, List.getElem?_cons_zero, hrow, cAm, itmOf_fl, List.take_length, hnm, hadF_eq h.w rfl]
    iterate 5 (refine (if_pos (by first | omega | (simp; done) | (simp [isIntV, isBoolV, isStrV, putCells, capOf]; done) | (simp; omega) | (simp [capOf]; omega))).trans ?_)
    refine (if_pos (hz)).trans ?_
    refine (if_pos (cdec_true.2 L1)).trans ?_
    refine (if_pos (cdec_true.2 (hc.symm ▸ hI))).trans ?_
    refine (if_neg (fun hd => absurd (Int.le_trans (of_decide_eq_true hd) (Int.le_of_eq hc)) (by omega))).trans ?_
    refine (if_pos (by first | omega | (simp; done) | (simp [isIntV, isBoolV, isStrV, putCells, capOf]; done) | (simp; omega) | (simp [capOf]; omega))).trans ?_
    refine (if_pos (decide_eq_false (by omega))).trans ?_
    iterate 4 (refine (if_pos (by first | omega | (simp; done) | (simp [isIntV, isBoolV, isStrV, putCells, capOf]; done) | (simp; omega) | (simp [capOf]; omega))).trans ?_)
    refine (if_pos (cdec_true.2 (hA1 _ rfl rfl))).trans ?_
    refine (if_pos (cdec_true.2 (hA2 _ rfl rfl))).trans ?_
    iterate 4 (refine (if_neg (by first | (simp only [wrapAL, wrapAR, wrapSL, wrapSR, bne_iff_ne, ne_eq, beq_iff_eq, decide_eq_true_eq, decide_eq_false_iff_not, beq_eq_false_iff_ne, bne_eq_false_iff_eq, Decidable.not_not, ge_iff_le, gt_iff_lt, Int.not_lt, Int.not_le]; done) | (simp only [wrapAL, wrapAR, wrapSL, wrapSR, bne_iff_ne, ne_eq, beq_iff_eq, decide_eq_true_eq, decide_eq_false_iff_not, beq_eq_false_iff_ne, bne_eq_false_iff_eq, Decidable.not_not, ge_iff_le, gt_iff_lt, Int.not_lt, Int.not_le]; omega) | (simp only [wrapAL, wrapAR, wrapSL, wrapSR, bne_iff_ne, ne_eq, beq_iff_eq, decide_eq_true_eq, decide_eq_false_iff_not, beq_eq_false_iff_ne, bne_eq_false_iff_eq, Decidable.not_not, ge_iff_le, gt_iff_lt, Int.not_lt, Int.not_le]; rw [wrapI64 (by omega)] <;> omega) | (simp only [wrapAL, wrapAR, wrapSL, wrapSR, bne_iff_ne, ne_eq, beq_iff_eq, decide_eq_true_eq, decide_eq_false_iff_not, beq_eq_false_iff_ne, bne_eq_false_iff_eq, Decidable.not_not, ge_iff_le, gt_iff_lt, Int.not_lt, Int.not_le]; rw [wrapI64 (by omega), wrapI64 (by omega)] <;> omega) | (simp; done) | (simp; omega))).trans ?_)
    refine (if_pos (by rw [if_neg (by decide)]; exact bne_eq_false_iff_eq.2 (cA1 _))).trans ?_
    refine (if_pos (cdec_true.2 L2)).trans ?_
    rfl
  · exact gcFA 2 3 rfl rfl rfl rfl (by omega) (by omega) (by simp) (by simp) h.ok.f h.w.f rfl rfl rfl rfl

theorem itW_take3 {P : PS} {f : Nat} (h : 0 < P.length) : (itW f P).take 3 = [.str P[0].1, .int .i64 P[0].2, .int .i64 f] := by
  cases P with
  | nil => simp at h
  | cons p P => rfl
theorem allA {q : QS} (ok : q.Ok AV.str (AV.int .i64)) (hl : q.P.length ≤ 1000) {a b : Int} {o n qc : Nat} (ho : o = q.o) (hn : n = q.P.length) (m : Int) (hm : -1 ≤ m) {c : Nat} (hc : cntA q.P.length m = c) {J : List AV} (hJ : itC (q.P.take c) = J) (hh : AHeap) {par : Option Nat} (g1 : hh[1]? = some (.cells [.int .i64 a, .int .i64 b, .sl (some (qc, o)) n 0 false] 3 .own none)) (g2 : hh[qc]? = some (.cells q.C 2 .own par)) :
    AllR [.ptr (some (1, 0)), .int .i64 m] hh (.sl (some (hh.length, 0)) c 0 false) [.cells J 3 .own none] := by
  subst ho hn
  have hr := ok.row (hp := hh) (k := qc) (md := .own) (par := par) (r := 0) (e := false) g2
  exact AllR.mk q.P m _ _ hh 1 _ .own 3 none _ g1 rfl hr.1 hr.2 (by omega) hm _ hc rfl _ hJ

theorem stepFAZ {m i : Nat} {l : List Int} {s : FS} (h : FaOk m i s) (hm : 1 ≤ m ∧ m ≤ 256) (hl : l.length ≤ 100) (hi : i < l.length) (hz : (l.getD i 0 % 9 == 8) = true) (he : s.q.P.length = 0) :
    ∃ vs1 h1, qround Try.prog tFA 100 5 [(60, .bool true), (77, .bool true), (118, .bool false), (119, .bool false), (184, .bool false), (224, .bool false)] lsFA FA0 mFA0 (sFA m l i s).1 (sFA m l i s).2 = some (.norm, vs1, h1) ∧ Gc 2 vs1 h1 (sFA m l (i + 1) (faStep m i (l.getD i 0) s)).1 (sFA m l (i + 1) (faStep m i (l.getD i 0) s)).2 := by
  have e0 : ((l.map (AV.int .i64))[0 + (i : Int).toNat * 1]?) = some (.int .i64 (l.getD i 0)) := by rw [show 0 + (i : Int).toNat * 1 = i by omega]; exact get_ints hi
  have ok' := step_ok (z := l.getD i 0) h
  have hx := h.ok.x
  have hle := h.le
  have hxi := h.xi
  have hn := h.ok.n
  have hwn := h.w.n
  have hwi : IntKind.i64.wrap ((i : Int) + 1) = ((i + 1 : Nat) : Int) := by rw [wrapI64 (by omega)]; omega
  have hs : faStep m i (l.getD i 0) s = s := by
    unfold faStep faPop
    rw [if_pos hz, if_pos he]
  rw [hs]
  have L2 : ∀ hh : AHeap, hh.length = 7 → LSays bFA2 7 (vFA2 m l 3 s.ow s.q.P.length s.q.x i 5 s.q.P.length (cntA s.q.P.length 1) 0) hh (.exit 5) (vFA2 m l 3 s.ow s.q.P.length s.q.x i 5 s.q.P.length (cntA s.q.P.length 1) (s.q.P.length : Int)) hh := fun hh _ => by
    have e : ((s.q.P.length : Nat) : Int) = 0 := by omega
    rw [e]
    exact .mk (loop_T (fun _ => (vFA2 m l 3 s.ow s.q.P.length s.q.x i 5 s.q.P.length (cntA s.q.P.length 1) 0, hh)) (N := 0) (by simp) (fun i hi => absurd hi (Nat.not_lt_zero i)) ⟨_, _, _, (nfFCzs m s.q.x i 0 l s.ow s.q.P.length s.q.P.length _ hh).trans (if_pos (decide_eq_false (by omega))), Gc.refl⟩)
  have hwx : IntKind.i64.wrap ((s.q.x : Int) - (s.q.P.length : Int)) = (s.q.x : Int) := by rw [wrapI64 (by omega)]; omega
  have hrow : List.take (s.q.P.length * 2) (List.drop s.q.o s.q.C) = flS s.q.P := h.ok.t
  have hnm : List.map byteD [AV.int IntKind.u8 (IntKind.u8.wrap (IntKind.i64.wrap (97 + l.getD i 0 % 9)))] = nmA (l.getD i 0) := rfl
  show ∃ vs1 h1, qround Try.prog _ 100 5 _ _ FA0 mFA0 (vFA0 m l 3 s.ow s.q.P.length s.q.x i) (hFAq l m s.q.x 2 s.q.o s.q.P.length s.q.C s.D) = some (.norm, vs1, h1) ∧ _
  rw [nfFAZ]
  refine ⟨?_, ?_, ?_, ?_⟩
  rotate_left 2
  · simp only [hFAZ0, hFAZ1, hFAZ2, hFAZ3, hFAZ4, e0, intS, isI0, hwx, hwi, opq_eq, nOf_sl, rowOf, List.getElem?_cons_succ, List.getElem?_cons_zero, hrow, cAm, itmOf_fl, List.take_length, hnm]
    iterate 5 (refine (if_pos (by first | omega | (simp; done) | (simp [isIntV, isBoolV, isStrV, putCells, capOf]; done) | (simp; omega) | (simp [capOf]; omega))).trans ?_)
    refine (if_pos (hz)).trans ?_
    refine (if_pos (beq_iff_eq.2 (by omega))).trans ?_
    refine (if_neg (by rw [decide_eq_false (by omega)]; decide)).trans ?_
    refine (if_pos (decide_eq_false (by omega))).trans ?_
    refine (if_pos (cdec_true.2 (allA h.ok (by omega) rfl rfl (-1) (by omega) (cAm _) (by rw [List.take_length]) _ rfl rfl))).trans ?_
    refine (if_pos (cdec_true.2 (allA h.ok (by omega) rfl rfl 1 (by omega) rfl rfl _ rfl rfl))).trans ?_
    iterate 4 (refine (if_neg (by first | (simp only [wrapAL, wrapAR, wrapSL, wrapSR, bne_iff_ne, ne_eq, beq_iff_eq, decide_eq_true_eq, decide_eq_false_iff_not, beq_eq_false_iff_ne, bne_eq_false_iff_eq, Decidable.not_not, ge_iff_le, gt_iff_lt, Int.not_lt, Int.not_le]; done) | (simp only [wrapAL, wrapAR, wrapSL, wrapSR, bne_iff_ne, ne_eq, beq_iff_eq, decide_eq_true_eq, decide_eq_false_iff_not, beq_eq_false_iff_ne, bne_eq_false_iff_eq, Decidable.not_not, ge_iff_le, gt_iff_lt, Int.not_lt, Int.not_le]; omega) | (simp only [wrapAL, wrapAR, wrapSL, wrapSR, bne_iff_ne, ne_eq, beq_iff_eq, decide_eq_true_eq, decide_eq_false_iff_not, beq_eq_false_iff_ne, bne_eq_false_iff_eq, Decidable.not_not, ge_iff_le, gt_iff_lt, Int.not_lt, Int.not_le]; rw [wrapI64 (by omega)] <;> omega) | (simp only [wrapAL, wrapAR, wrapSL, wrapSR, bne_iff_ne, ne_eq, beq_iff_eq, decide_eq_true_eq, decide_eq_false_iff_not, beq_eq_false_iff_ne, bne_eq_false_iff_eq, Decidable.not_not, ge_iff_le, gt_iff_lt, Int.not_lt, Int.not_le]; rw [wrapI64 (by omega), wrapI64 (by omega)] <;> omega) | (simp; done) | (simp; omega))).trans ?_)
    refine (if_pos (by rw [if_neg (by decide)]; exact bne_eq_false_iff_eq.2 (cA1 _))).trans ?_
    refine (if_pos (cdec_true.2 (L2 _ rfl))).trans ?_
    rfl
  · exact gcFA 2 3 rfl rfl rfl rfl (by omega) (by omega) (by simp) (by simp) h.ok.f h.w.f rfl rfl rfl rfl

theorem stepFAP {m i : Nat} {l : List Int} {s : FS} (h : FaOk m i s) (hm : 1 ≤ m ∧ m ≤ 256) (hl : l.length ≤ 100) (hi : i < l.length) (hz : (l.getD i 0 % 9 == 8) = true) (he : 1 < s.q.P.length) :
    ∃ vs1 h1, qround Try.prog tFA 100 5 [(60, .bool true), (77, .bool true), (118, .bool false), (119, .bool true), (184, .bool true), (224, .bool false)] lsFA FA0 mFA0 (sFA m l i s).1 (sFA m l i s).2 = some (.norm, vs1, h1) ∧ Gc 2 vs1 h1 (sFA m l (i + 1) (faStep m i (l.getD i 0) s)).1 (sFA m l (i + 1) (faStep m i (l.getD i 0) s)).2 := by
  have e0 : ((l.map (AV.int .i64))[0 + (i : Int).toNat * 1]?) = some (.int .i64 (l.getD i 0)) := by rw [show 0 + (i : Int).toNat * 1 = i by omega]; exact get_ints hi
  have ok' := step_ok (z := l.getD i 0) h
  have hx := h.ok.x
  have hle := h.le
  have hxi := h.xi
  have hn := h.ok.n
  have hwn := h.w.n
  have hwi : IntKind.i64.wrap ((i : Int) + 1) = ((i + 1 : Nat) : Int) := by rw [wrapI64 (by omega)]; omega
  have hne : 0 < s.q.P.length := by omega
  have hs : faStep m i (l.getD i 0) s = ⟨s.q.pop, s.ow + 3, s.D⟩ := by
    unfold faStep faPop
    rw [if_pos hz, if_neg (by omega)]
  rw [hs] at ok' ⊢
  have okp : s.q.pop.Ok AV.str (AV.int .i64) := ok'.ok
  have hlp : s.q.pop.P.length = s.q.P.length - 1 := by simp [FQ.pop]
  have L2 := saysA2a okp ok'.w ok'.d (by omega) m s.q.x s.q.x i l (cntA (s.q.P.length - 1) 1) (farI l) (.cells [AV.int IntKind.u8 (IntKind.u8.wrap (IntKind.i64.wrap (97 + l.getD i 0 % 9)))] 1 .own none) (.cells (putCells [AV.str [], AV.int IntKind.i64 0] 0 [AV.str s.q.P[0].1, AV.int .i64 s.q.P[0].2]) 2 .own none) (.cells (itC (s.q.pop.P.take (cntA (s.q.P.length - 1) 1))) 3 .own none) (by
    intro b hb
    simp only [hFA2a, List.mem_cons, List.not_mem_nil, or_false] at hb
    rcases hb with rfl | rfl | rfl | rfl | rfl | rfl | rfl | rfl
    · exact okU_free (frees_ints _) (by simp)
    · exact ⟨rfl, by simp⟩
    · exact okU_free h.ok.f (by simp)
    · exact okU_free h.w.f (by simp)
    · exact okU_free rfl (by simp)
    · exact okU_free rfl (by simp)
    · exact okU_free (itC_frees _) (by simp)
    · exact okU_free (itC_frees _) (by simp))
  rw [hlp] at L2
  have hrop : List.take ((s.q.P.length - 1) * 2) (List.drop (s.q.o + 2) s.q.C) = flS s.q.pop.P := by rw [← hlp]; exact okp.t
  have hlt : s.q.pop.P.take (s.q.P.length - 1) = s.q.pop.P := by rw [← hlp, List.take_length]
  have et : List.take 2 (List.drop (s.q.o + 0) s.q.C) = [AV.str s.q.P[0].1, AV.int .i64 s.q.P[0].2] := by
    have hd : flS s.q.P = s.q.C.drop s.q.o := h.ok.d.symm
    have := fl_at (ek := AV.str) (ev := AV.int .i64) hne
    have e : fl AV.str (AV.int .i64) s.q.P = s.q.C.drop s.q.o := hd
    rw [e] at this
    simpa using this
  have ed : List.take 3 (List.drop (s.ow + 0) s.D) = [AV.str s.q.P[0].1, AV.int .i64 s.q.P[0].2, AV.int .i64 ((s.q.x - s.q.P.length : Nat) : Int)] := by
    rw [Nat.add_zero, h.w.d, itW_take3 hne]
  have hwx : IntKind.i64.wrap ((s.q.x : Int) - (s.q.P.length : Int)) = ((s.q.x - s.q.P.length : Nat) : Int) := by rw [wrapI64 (by omega)]; omega
  have hwy : IntKind.i64.wrap ((s.q.x : Int) - ((s.q.P.length - 1 : Nat) : Int)) = ((s.q.x - (s.q.P.length - 1) : Nat) : Int) := by rw [wrapI64 (by omega)]; omega
  obtain ⟨_, _, d2⟩ := h.w.get he
  have d2' : s.D[s.ow + 3 + 0 + 2]? = some (.int .i64 ((s.q.x - (s.q.P.length - 1) : Nat) : Int)) := by
    have e1 : s.ow + 3 + 0 + 2 = s.ow + 1 * 3 + 2 := by omega
    rw [e1, d2]; congr 3; omega
  have hrow : List.take (s.q.P.length * 2) (List.drop s.q.o s.q.C) = flS s.q.P := h.ok.t
  have hnm : List.map byteD [AV.int IntKind.u8 (IntKind.u8.wrap (IntKind.i64.wrap (97 + l.getD i 0 % 9)))] = nmA (l.getD i 0) := rfl
  show ∃ vs1 h1, qround Try.prog _ 100 5 _ _ FA0 mFA0 (vFA0 m l 3 s.ow s.q.P.length s.q.x i) (hFAq l m s.q.x 2 s.q.o s.q.P.length s.q.C s.D) = some (.norm, vs1, h1) ∧ _
  rw [nfFAP]
  refine ⟨?_, ?_, ?_, ?_⟩
  rotate_left 2
  · simp only [hFAP0, hFAP1, hFAP2, hFAP3, hFAP4, e0, intS, isI0, et, ed, hwx, hwy, hwi, d2', opq_eq, nOf_sl, rowOf, List.getElem?_cons_succ, List.getElem?_cons_zero, hrop, cAm, itmOf_fl, hlt, hnm]
    iterate 2 (refine (if_pos (by first | omega | (simp; done) | (simp [isIntV, isBoolV, isStrV, putCells, capOf]; done) | (simp; omega) | (simp [capOf]; omega))).trans ?_)
    refine (if_pos (by first | rfl | (simp [isIntV, isStrV, putCells]; done))).trans ?_
    refine (if_pos (by first | omega | (simp; done) | (simp [isIntV, isBoolV, isStrV, putCells, capOf]; done) | (simp; omega) | (simp [capOf]; omega))).trans ?_
    refine (if_pos (by first | rfl | (simp [isIntV, isStrV, putCells]; done))).trans ?_
    refine (if_pos (hz)).trans ?_
    refine (if_neg (fun hc => absurd (beq_iff_eq.1 hc) (by omega))).trans ?_
    iterate 5 (refine (if_pos (by first | omega | (simp; done) | (simp [isIntV, isBoolV, isStrV, putCells, capOf]; done) | (simp; omega) | (simp [capOf]; omega))).trans ?_)
    iterate 2 (refine (if_pos (by first | rfl | (simp [isIntV, isStrV, putCells]; done))).trans ?_)
    refine (if_neg (by rw [decide_eq_true (by omega)]; decide)).trans ?_
    iterate 2 (refine (if_pos (by first | omega | (simp; done) | (simp [isIntV, isBoolV, isStrV, putCells, capOf]; done) | (simp; omega) | (simp [capOf]; omega))).trans ?_)
    iterate 3 (refine (if_pos (by first | rfl | (simp [isIntV, isStrV, putCells]; done))).trans ?_)
    refine (if_neg (by simp [strV, intV, putCells])).trans ?_
    iterate 3 (refine (if_pos (by first | omega | (simp; done) | (simp [isIntV, isBoolV, isStrV, putCells, capOf]; done) | (simp; omega) | (simp [capOf]; omega))).trans ?_)
    refine (if_pos (by first | rfl | (simp [isIntV, isStrV, putCells]; done))).trans ?_
    refine (if_pos (cdec_true.2 (allA okp (by omega) rfl hlp.symm (-1) (by omega) ((cAm _).trans hlp) (by rw [← hlp, List.take_length]) _ rfl rfl))).trans ?_
    refine (if_pos (cdec_true.2 (allA okp (by omega) rfl hlp.symm 1 (by omega) (by rw [hlp]) (rfl) _ rfl rfl))).trans ?_
    iterate 4 (refine (if_neg (by first | (simp only [wrapAL, wrapAR, wrapSL, wrapSR, bne_iff_ne, ne_eq, beq_iff_eq, decide_eq_true_eq, decide_eq_false_iff_not, beq_eq_false_iff_ne, bne_eq_false_iff_eq, Decidable.not_not, ge_iff_le, gt_iff_lt, Int.not_lt, Int.not_le]; done) | (simp only [wrapAL, wrapAR, wrapSL, wrapSR, bne_iff_ne, ne_eq, beq_iff_eq, decide_eq_true_eq, decide_eq_false_iff_not, beq_eq_false_iff_ne, bne_eq_false_iff_eq, Decidable.not_not, ge_iff_le, gt_iff_lt, Int.not_lt, Int.not_le]; omega) | (simp only [wrapAL, wrapAR, wrapSL, wrapSR, bne_iff_ne, ne_eq, beq_iff_eq, decide_eq_true_eq, decide_eq_false_iff_not, beq_eq_false_iff_ne, bne_eq_false_iff_eq, Decidable.not_not, ge_iff_le, gt_iff_lt, Int.not_lt, Int.not_le]; rw [wrapI64 (by omega)] <;> omega) | (simp only [wrapAL, wrapAR, wrapSL, wrapSR, bne_iff_ne, ne_eq, beq_iff_eq, decide_eq_true_eq, decide_eq_false_iff_not, beq_eq_false_iff_ne, bne_eq_false_iff_eq, Decidable.not_not, ge_iff_le, gt_iff_lt, Int.not_lt, Int.not_le]; rw [wrapI64 (by omega), wrapI64 (by omega)] <;> omega) | (simp; done) | (simp; omega))).trans ?_)
    refine (if_pos (by rw [if_neg (by decide)]; exact bne_eq_false_iff_eq.2 (cA1 _))).trans ?_
    refine (if_pos (cdec_true.2 L2)).trans ?_
    rfl
  · exact gcFA 2 3 rfl rfl rfl rfl (by omega) (by omega) (by simp) (by simp) h.ok.f h.w.f hlp.symm hlp.symm rfl rfl

theorem stepFAE {m i : Nat} {l : List Int} {s : FS} (h : FaOk m i s) (hm : 1 ≤ m ∧ m ≤ 256) (hl : l.length ≤ 100) (hi : i < l.length) (hz : (l.getD i 0 % 9 == 8) = true) (he : s.q.P.length = 1) :
    ∃ vs1 h1, qround Try.prog tFA 100 5 [(60, .bool true), (77, .bool true), (118, .bool false), (119, .bool true), (184, .bool false), (224, .bool false)] lsFA FA0 mFA0 (sFA m l i s).1 (sFA m l i s).2 = some (.norm, vs1, h1) ∧ Gc 2 vs1 h1 (sFA m l (i + 1) (faStep m i (l.getD i 0) s)).1 (sFA m l (i + 1) (faStep m i (l.getD i 0) s)).2 := by
  have e0 : ((l.map (AV.int .i64))[0 + (i : Int).toNat * 1]?) = some (.int .i64 (l.getD i 0)) := by rw [show 0 + (i : Int).toNat * 1 = i by omega]; exact get_ints hi
  have ok' := step_ok (z := l.getD i 0) h
  have hx := h.ok.x
  have hle := h.le
  have hxi := h.xi
  have hn := h.ok.n
  have hwn := h.w.n
  have hwi : IntKind.i64.wrap ((i : Int) + 1) = ((i + 1 : Nat) : Int) := by rw [wrapI64 (by omega)]; omega
  have hne : 0 < s.q.P.length := by omega
  have hs : faStep m i (l.getD i 0) s = ⟨s.q.pop, s.ow + 3, s.D⟩ := by
    unfold faStep faPop
    rw [if_pos hz, if_neg (by omega)]
  rw [hs] at ok' ⊢
  have okp : s.q.pop.Ok AV.str (AV.int .i64) := ok'.ok
  have hlp : s.q.pop.P.length = s.q.P.length - 1 := by simp [FQ.pop]
  have L2 := saysA2a okp ok'.w ok'.d (by omega) m s.q.x s.q.x i l (cntA (s.q.P.length - 1) 1) (farI l) (.cells [AV.int IntKind.u8 (IntKind.u8.wrap (IntKind.i64.wrap (97 + l.getD i 0 % 9)))] 1 .own none) (.cells (putCells [AV.str [], AV.int IntKind.i64 0] 0 [AV.str s.q.P[0].1, AV.int .i64 s.q.P[0].2]) 2 .own none) (.cells (itC (s.q.pop.P.take (cntA (s.q.P.length - 1) 1))) 3 .own none) (by
    intro b hb
    simp only [hFA2a, List.mem_cons, List.not_mem_nil, or_false] at hb
    rcases hb with rfl | rfl | rfl | rfl | rfl | rfl | rfl | rfl
    · exact okU_free (frees_ints _) (by simp)
    · exact ⟨rfl, by simp⟩
    · exact okU_free h.ok.f (by simp)
    · exact okU_free h.w.f (by simp)
    · exact okU_free rfl (by simp)
    · exact okU_free rfl (by simp)
    · exact okU_free (itC_frees _) (by simp)
    · exact okU_free (itC_frees _) (by simp))
  rw [hlp] at L2
  have hrop : List.take ((s.q.P.length - 1) * 2) (List.drop (s.q.o + 2) s.q.C) = flS s.q.pop.P := by rw [← hlp]; exact okp.t
  have hlt : s.q.pop.P.take (s.q.P.length - 1) = s.q.pop.P := by rw [← hlp, List.take_length]
  have et : List.take 2 (List.drop (s.q.o + 0) s.q.C) = [AV.str s.q.P[0].1, AV.int .i64 s.q.P[0].2] := by
    have hd : flS s.q.P = s.q.C.drop s.q.o := h.ok.d.symm
    have := fl_at (ek := AV.str) (ev := AV.int .i64) hne
    have e : fl AV.str (AV.int .i64) s.q.P = s.q.C.drop s.q.o := hd
    rw [e] at this
    simpa using this
  have ed : List.take 3 (List.drop (s.ow + 0) s.D) = [AV.str s.q.P[0].1, AV.int .i64 s.q.P[0].2, AV.int .i64 ((s.q.x - s.q.P.length : Nat) : Int)] := by
    rw [Nat.add_zero, h.w.d, itW_take3 hne]
  have hwx : IntKind.i64.wrap ((s.q.x : Int) - (s.q.P.length : Int)) = ((s.q.x - s.q.P.length : Nat) : Int) := by rw [wrapI64 (by omega)]; omega
  have hwy : IntKind.i64.wrap ((s.q.x : Int) - ((s.q.P.length - 1 : Nat) : Int)) = ((s.q.x - (s.q.P.length - 1) : Nat) : Int) := by rw [wrapI64 (by omega)]; omega
  have hrow : List.take (s.q.P.length * 2) (List.drop s.q.o s.q.C) = flS s.q.P := h.ok.t
  have hnm : List.map byteD [AV.int IntKind.u8 (IntKind.u8.wrap (IntKind.i64.wrap (97 + l.getD i 0 % 9)))] = nmA (l.getD i 0) := rfl
  show ∃ vs1 h1, qround Try.prog _ 100 5 _ _ FA0 mFA0 (vFA0 m l 3 s.ow s.q.P.length s.q.x i) (hFAq l m s.q.x 2 s.q.o s.q.P.length s.q.C s.D) = some (.norm, vs1, h1) ∧ _
  rw [nfFAE]
  refine ⟨?_, ?_, ?_, ?_⟩
  rotate_left 2
  · simp only [hFAE0, hFAE1, hFAE2, hFAE3, hFAE4, e0, intS, isI0, et, ed, hwx, hwy, hwi, opq_eq, nOf_sl, rowOf, List.getElem?_cons_succ, List.getElem?_cons_zero, hrop, cAm, itmOf_fl, hlt, hnm]
    iterate 2 (refine (if_pos (by first | omega | (simp; done) | (simp [isIntV, isBoolV, isStrV, putCells, capOf]; done) | (simp; omega) | (simp [capOf]; omega))).trans ?_)
    refine (if_pos (by first | rfl | (simp [isIntV, isStrV, putCells]; done))).trans ?_
    refine (if_pos (by first | omega | (simp; done) | (simp [isIntV, isBoolV, isStrV, putCells, capOf]; done) | (simp; omega) | (simp [capOf]; omega))).trans ?_
    refine (if_pos (by first | rfl | (simp [isIntV, isStrV, putCells]; done))).trans ?_
    refine (if_pos (hz)).trans ?_
    refine (if_neg (fun hc => absurd (beq_iff_eq.1 hc) (by omega))).trans ?_
    iterate 5 (refine (if_pos (by first | omega | (simp; done) | (simp [isIntV, isBoolV, isStrV, putCells, capOf]; done) | (simp; omega) | (simp [capOf]; omega))).trans ?_)
    iterate 2 (refine (if_pos (by first | rfl | (simp [isIntV, isStrV, putCells]; done))).trans ?_)
    refine (if_neg (by rw [decide_eq_true (by omega)]; decide)).trans ?_
    iterate 2 (refine (if_pos (by first | omega | (simp; done) | (simp [isIntV, isBoolV, isStrV, putCells, capOf]; done) | (simp; omega) | (simp [capOf]; omega))).trans ?_)
    iterate 3 (refine (if_pos (by first | rfl | (simp [isIntV, isStrV, putCells]; done))).trans ?_)
    refine (if_neg (by simp [strV, intV, putCells])).trans ?_
    iterate 2 (refine (if_pos (by first | omega | (simp; done) | (simp [isIntV, isBoolV, isStrV, putCells, capOf]; done) | (simp; omega) | (simp [capOf]; omega))).trans ?_)
    refine (if_pos (cdec_true.2 (allA okp (by omega) rfl hlp.symm (-1) (by omega) ((cAm _).trans hlp) (by rw [← hlp, List.take_length]) _ rfl rfl))).trans ?_
    refine (if_pos (cdec_true.2 (allA okp (by omega) rfl hlp.symm 1 (by omega) (by rw [hlp]) (rfl) _ rfl rfl))).trans ?_
    iterate 4 (refine (if_neg (by first | (simp only [wrapAL, wrapAR, wrapSL, wrapSR, bne_iff_ne, ne_eq, beq_iff_eq, decide_eq_true_eq, decide_eq_false_iff_not, beq_eq_false_iff_ne, bne_eq_false_iff_eq, Decidable.not_not, ge_iff_le, gt_iff_lt, Int.not_lt, Int.not_le]; done) | (simp only [wrapAL, wrapAR, wrapSL, wrapSR, bne_iff_ne, ne_eq, beq_iff_eq, decide_eq_true_eq, decide_eq_false_iff_not, beq_eq_false_iff_ne, bne_eq_false_iff_eq, Decidable.not_not, ge_iff_le, gt_iff_lt, Int.not_lt, Int.not_le]; omega) | (simp only [wrapAL, wrapAR, wrapSL, wrapSR, bne_iff_ne, ne_eq, beq_iff_eq, decide_eq_true_eq, decide_eq_false_iff_not, beq_eq_false_iff_ne, bne_eq_false_iff_eq, Decidable.not_not, ge_iff_le, gt_iff_lt, Int.not_lt, Int.not_le]; rw [wrapI64 (by omega)] <;> omega) | (simp only [wrapAL, wrapAR, wrapSL, wrapSR, bne_iff_ne, ne_eq, beq_iff_eq, decide_eq_true_eq, decide_eq_false_iff_not, beq_eq_false_iff_ne, bne_eq_false_iff_eq, Decidable.not_not, ge_iff_le, gt_iff_lt, Int.not_lt, Int.not_le]; rw [wrapI64 (by omega), wrapI64 (by omega)] <;> omega) | (simp; done) | (simp; omega))).trans ?_)
    refine (if_pos (by rw [if_neg (by decide)]; exact bne_eq_false_iff_eq.2 (cA1 _))).trans ?_
    refine (if_pos (cdec_true.2 L2)).trans ?_
    rfl
  · exact gcFA 2 3 rfl rfl rfl rfl (by omega) (by omega) (by simp) (by simp) h.ok.f h.w.f hlp.symm hlp.symm rfl rfl

theorem stepFAO {m i : Nat} {l : List Int} {s : FS} (h : FaOk m i s) (hm : 1 ≤ m ∧ m ≤ 256) (hl : l.length ≤ 100) (hi : i < l.length) (hz : (l.getD i 0 % 9 == 8) = false) (hk : ixIxsi s.q.P (nmA (l.getD i 0)) < 0) (hf : s.q.P.length < m) :
    ∃ vs1 h1, qround Try.prog tFA 100 5 [(60, .bool true), (77, .bool false), (163, .bool false), (174, .bool false), (149, .bool false), (184, .bool true), (224, .bool false)] lsFA FA0 mFA0 (sFA m l i s).1 (sFA m l i s).2 = some (.norm, vs1, h1) ∧ Gc 2 vs1 h1 (sFA m l (i + 1) (faStep m i (l.getD i 0) s)).1 (sFA m l (i + 1) (faStep m i (l.getD i 0) s)).2 := by
  have e0 : ((l.map (AV.int .i64))[0 + (i : Int).toNat * 1]?) = some (.int .i64 (l.getD i 0)) := by rw [show 0 + (i : Int).toNat * 1 = i by omega]; exact get_ints hi
  have ok' := step_ok (z := l.getD i 0) h
  have hx := h.ok.x
  have hle := h.le
  have hxi := h.xi
  have hn := h.ok.n
  have hwn := h.w.n
  have hwi : IntKind.i64.wrap ((i : Int) + 1) = ((i + 1 : Nat) : Int) := by rw [wrapI64 (by omega)]; omega
  have hs : faStep m i (l.getD i 0) s = ⟨(s.q.push AV.str (AV.int .i64) (nmA (l.getD i 0)) i), 0, (itW (s.q.x - s.q.P.length) (s.q.push AV.str (AV.int .i64) (nmA (l.getD i 0)) i).P)⟩ := by
    unfold faStep faPush
    rw [if_neg (by rw [hz]; decide), if_neg (by omega), if_neg (by omega)]
    rfl
  rw [hs] at ok' ⊢
  have okq : (s.q.push AV.str (AV.int .i64) (nmA (l.getD i 0)) i).Ok AV.str (AV.int .i64) := ok'.ok
  have hlq : (s.q.push AV.str (AV.int .i64) (nmA (l.getD i 0)) i).P.length = s.q.P.length + 1 := by simp [FQ.push]
  have hPq : (s.q.push AV.str (AV.int .i64) (nmA (l.getD i 0)) i).P = s.q.P ++ [(nmA (l.getD i 0), (i : Int))] := rfl
  have hCq : (s.q.push AV.str (AV.int .i64) (nmA (l.getD i 0)) i).C = flS s.q.P ++ [AV.str (nmA (l.getD i 0)), AV.int .i64 i] := by
    show fl AV.str (AV.int .i64) (s.q.P ++ [(nmA (l.getD i 0), (i : Int))]) = _
    simp [flS]
  have hDq : (itW (s.q.x - s.q.P.length) (s.q.push AV.str (AV.int .i64) (nmA (l.getD i 0)) i).P) = itW (s.q.x - s.q.P.length) s.q.P ++ [AV.str (nmA (l.getD i 0)), AV.int .i64 i, AV.int .i64 s.q.x] := by
    rw [hPq, itW_snoc]
    have e : (s.q.x - s.q.P.length) + s.q.P.length = s.q.x := by omega
    rw [e]
  have wq : WOk (s.q.push AV.str (AV.int .i64) (nmA (l.getD i 0)) i).P (s.q.x - s.q.P.length) 0 (itW (s.q.x - s.q.P.length) (s.q.push AV.str (AV.int .i64) (nmA (l.getD i 0)) i).P) := ⟨by simp, by simp, itW_frees _ _⟩
  have ht : List.take (s.q.P.length * 2) (List.drop s.q.o s.q.C) = flS s.q.P := h.ok.t
  have hW : List.take (s.q.P.length * 3) (List.drop s.ow s.D) = itW (s.q.x - s.q.P.length) s.q.P := by rw [h.w.d]; exact List.take_of_length_le (by simp)
  have hW2 : List.take (s.q.P.length * 3) (itW (s.q.x - s.q.P.length) s.q.P) = itW (s.q.x - s.q.P.length) s.q.P := List.take_of_length_le (by simp)
  have d2 : ((itW (s.q.x - s.q.P.length) (s.q.push AV.str (AV.int .i64) (nmA (l.getD i 0)) i).P))[2]? = some (.int .i64 (((s.q.x - s.q.P.length) : Nat) : Int)) := by
    have := (itW_get (P := (s.q.push AV.str (AV.int .i64) (nmA (l.getD i 0)) i).P) (f := (s.q.x - s.q.P.length)) (i := 0) (by rw [hlq]; omega)).2.2
    simpa using this
  rw [hDq] at d2
  have L1 := saysA1 h.w h.d (by omega) m s.q.x i l (nmA (l.getD i 0)) (farI l) (.cells [.int .i64 m, .int .i64 s.q.x, .sl (some (2, s.q.o)) s.q.P.length 0 false] 3 .own none) (.cells s.q.C 2 .own none) (.cells [AV.int IntKind.u8 (IntKind.u8.wrap (IntKind.i64.wrap (97 + l.getD i 0 % 9)))] 1 .own none)
  have L2 := saysA2b okq wq ok'.d (by rw [hlq]; omega) m ((s.q.x + 1 : Nat) : Int) ((s.q.x + 1 : Nat) : Int) i l (cntA (s.q.P.length + 1) 1) (farI l) (.cells s.q.C 2 .ro none) (.cells s.D 3 .own none) (.cells [AV.int IntKind.u8 (IntKind.u8.wrap (IntKind.i64.wrap (97 + l.getD i 0 % 9)))] 1 .own none) (.cells [.str (nmA (l.getD i 0))] 1 .own none) (.cells [.str (nmA (l.getD i 0)), .int .i64 i] 2 .own none) .dead (.cells (itW (s.q.x - s.q.P.length) s.q.P) 3 .ro none) (.cells [.str (nmA (l.getD i 0)), .int .i64 i, .int .i64 s.q.x] 3 .own none) (.cells (itC ((s.q.push AV.str (AV.int .i64) (nmA (l.getD i 0)) i).P.take (cntA (s.q.P.length + 1) 1))) 3 .own none) (by
    intro b hb
    simp only [hFA2b, List.mem_cons, List.not_mem_nil, or_false] at hb
    rcases hb with rfl | rfl | rfl | rfl | rfl | rfl | rfl | rfl | rfl | rfl | rfl | rfl | rfl | rfl
    · exact okU_free (frees_ints _) (by simp)
    · exact ⟨rfl, by simp⟩
    · exact okU_free h.ok.f (by simp)
    · exact okU_free h.w.f (by simp)
    · exact okU_free rfl (by simp)
    · exact okU_free rfl (by simp)
    · exact okU_free rfl (by simp)
    · exact okU_free okq.f (by simp)
    · trivial
    · exact okU_free (itW_frees _ _) (by simp)
    · exact okU_free rfl (by simp)
    · exact okU_free (itW_frees _ _) (by simp)
    · exact okU_free (itC_frees _) (by simp)
    · exact okU_free (itC_frees _) (by simp))
  have hfC := okq.f
  have hfD := itW_frees (s.q.x - s.q.P.length) (s.q.push AV.str (AV.int .i64) (nmA (l.getD i 0)) i).P
  rw [hlq] at L2
  have hr := h.ok.row (hp := [farI l, .cells [.int .i64 m, .int .i64 s.q.x, .sl (some (2, s.q.o)) s.q.P.length 0 false] 3 .own none, .cells s.q.C 2 .own none, .cells s.D 3 .own none, .cells [AV.int IntKind.u8 (IntKind.u8.wrap (IntKind.i64.wrap (97 + l.getD i 0 % 9)))] 1 .own none, .cells [.str (nmA (l.getD i 0))] 1 .own none]) (k := 2) (md := .own) (par := none) (r := 0) (e := false) rfl
  have hI := RIxsi.mk s.q.P (nmA (l.getD i 0)) _ _ 5 .own none hr.1 hr.2 rfl (by omega) _ rfl
  have hc := cIxsi hI
  have e0' : ((l.map (AV.int .i64))[(i : Int).toNat * 1]?) = some (.int .i64 (l.getD i 0)) := by rw [show (i : Int).toNat * 1 = i by omega]; exact get_ints hi
  have hx1 : IntKind.i64.wrap ((s.q.x : Int) + 1) = ((s.q.x + 1 : Nat) : Int) := by rw [wrapI64 (by omega)]; omega
  have hx2 : IntKind.i64.wrap (((s.q.x + 1 : Nat) : Int) - 1) = (s.q.x : Int) := by rw [wrapI64 (by omega)]; omega
  have hx3 : IntKind.i64.wrap (((s.q.x + 1 : Nat) : Int) - ((s.q.P.length + 1 : Nat) : Int)) = (((s.q.x - s.q.P.length) : Nat) : Int) := by rw [wrapI64 (by omega)]; omega
  have hnm : List.map byteD [AV.int IntKind.u8 (IntKind.u8.wrap (IntKind.i64.wrap (97 + l.getD i 0 % 9)))] = nmA (l.getD i 0) := rfl
  have htq : List.take ((s.q.P.length + 1) * 2) (s.q.push AV.str (AV.int .i64) (nmA (l.getD i 0)) i).C = flS (s.q.push AV.str (AV.int .i64) (nmA (l.getD i 0)) i).P := by rw [← hlq]; exact List.take_of_length_le (by rw [← okq.n]; simp [FQ.push])
  have htq2 : List.take ((s.q.P.length + 1) * 2) (flS s.q.P ++ [AV.str (nmA (l.getD i 0)), AV.int .i64 i]) = flS (s.q.push AV.str (AV.int .i64) (nmA (l.getD i 0)) i).P := by rw [← hCq]; exact htq
  have hlt : (s.q.push AV.str (AV.int .i64) (nmA (l.getD i 0)) i).P.take (s.q.P.length + 1) = (s.q.push AV.str (AV.int .i64) (nmA (l.getD i 0)) i).P := by rw [← hlq, List.take_length]
  have hbC : ∀ md par, ABlk.cells (flS s.q.P ++ [AV.str (nmA (l.getD i 0)), AV.int .i64 i]) 2 md par = ABlk.cells (s.q.push AV.str (AV.int .i64) (nmA (l.getD i 0)) i).C 2 md par := fun md par => by rw [hCq]
  have hbD : ∀ md par, ABlk.cells (itW (s.q.x - s.q.P.length) s.q.P ++ [AV.str (nmA (l.getD i 0)), AV.int .i64 i, AV.int .i64 s.q.x]) 3 md par = ABlk.cells (itW (s.q.x - s.q.P.length) (s.q.push AV.str (AV.int .i64) (nmA (l.getD i 0)) i).P) 3 md par := fun md par => by rw [hDq]
  have hrow : List.take (s.q.P.length * 2) (List.drop s.q.o s.q.C) = flS s.q.P := h.ok.t
  have hnm : List.map byteD [AV.int IntKind.u8 (IntKind.u8.wrap (IntKind.i64.wrap (97 + l.getD i 0 % 9)))] = nmA (l.getD i 0) := rfl
  show ∃ vs1 h1, qround Try.prog _ 100 5 _ _ FA0 mFA0 (vFA0 m l 3 s.ow s.q.P.length s.q.x i) (hFAq l m s.q.x 2 s.q.o s.q.P.length s.q.C s.D) = some (.norm, vs1, h1) ∧ _
  rw [nfFAO]
  refine ⟨?_, ?_, ?_, ?_⟩
  rotate_left 2
  · simp only [hFAO0, hFAO1, hFAO2, hFAO3, hFAO4, hFAO5, hFAO6, hFAO7, Nat.zero_add, e0', intS, isI0, ht, hW, hW2, hx1, hx2, hx3, hwi, hnm, hbC, hbD, d2, opq_eq, nOf_sl, rowOf, List.getElem?_cons_succ, List.getElem?_cons_zero, List.drop_zero, htq, htq2, cAm, itmOf_fl, hlt, hadF_eq h.w rfl]
    iterate 5 (refine (if_pos (by first | omega | (simp; done) | (simp [isIntV, isBoolV, isStrV, putCells, capOf]; done) | (simp; omega) | (simp [capOf]; omega))).trans ?_)
    refine (if_pos (hz)).trans ?_
    refine (if_pos (cdec_true.2 L1)).trans ?_
    refine (if_pos (cdec_true.2 (hc.symm ▸ hI))).trans ?_
    refine (if_neg (fun hd => absurd (Int.le_trans (of_decide_eq_true hd) (Int.le_of_eq hc)) (by omega))).trans ?_
    refine (if_neg (by first | omega | (simp; done) | (simp [isIntV, isBoolV, isStrV, putCells, capOf]; done) | (simp; omega) | (simp [capOf]; omega))).trans ?_
    iterate 2 (refine (if_pos (by first | omega | (simp; done) | (simp [isIntV, isBoolV, isStrV, putCells, capOf]; done) | (simp; omega) | (simp [capOf]; omega))).trans ?_)
    refine (if_pos (by refine ⟨?_, ?_, ?_, ?_, ?_⟩ <;> first | trivial | rfl | exact itW_cells _ _ | omega | (rw [itW_length]; omega) | (simp; done) | exact .inr trivial | exact .inl (by omega))).trans ?_
    refine (if_pos (decide_eq_false (by omega))).trans ?_
    refine (if_pos (by first | omega | (simp; done) | (simp [isIntV, isBoolV, isStrV, putCells, capOf]; done) | (simp; omega) | (simp [capOf]; omega))).trans ?_
    refine (if_pos (by first | (simp only [wrapAL, wrapAR, wrapSL, wrapSR, bne_iff_ne, ne_eq, beq_iff_eq, decide_eq_true_eq, decide_eq_false_iff_not, beq_eq_false_iff_ne, bne_eq_false_iff_eq, Decidable.not_not, ge_iff_le, gt_iff_lt, Int.not_lt, Int.not_le]; done) | (simp only [wrapAL, wrapAR, wrapSL, wrapSR, bne_iff_ne, ne_eq, beq_iff_eq, decide_eq_true_eq, decide_eq_false_iff_not, beq_eq_false_iff_ne, bne_eq_false_iff_eq, Decidable.not_not, ge_iff_le, gt_iff_lt, Int.not_lt, Int.not_le]; omega) | (simp only [wrapAL, wrapAR, wrapSL, wrapSR, bne_iff_ne, ne_eq, beq_iff_eq, decide_eq_true_eq, decide_eq_false_iff_not, beq_eq_false_iff_ne, bne_eq_false_iff_eq, Decidable.not_not, ge_iff_le, gt_iff_lt, Int.not_lt, Int.not_le]; rw [wrapI64 (by omega)] <;> omega) | (simp only [wrapAL, wrapAR, wrapSL, wrapSR, bne_iff_ne, ne_eq, beq_iff_eq, decide_eq_true_eq, decide_eq_false_iff_not, beq_eq_false_iff_ne, bne_eq_false_iff_eq, Decidable.not_not, ge_iff_le, gt_iff_lt, Int.not_lt, Int.not_le]; rw [wrapI64 (by omega), wrapI64 (by omega)] <;> omega) | (simp; done) | (simp; omega))).trans ?_
    iterate 2 (refine (if_pos (by first | omega | (simp; done) | (simp [isIntV, isBoolV, isStrV, putCells, capOf]; done) | (simp; omega) | (simp [capOf]; omega))).trans ?_)
    refine (if_pos (by refine ⟨?_, ?_, ?_, ?_, ?_⟩ <;> first | trivial | rfl | exact itW_cells _ _ | omega | (rw [itW_length]; omega) | (simp; done) | exact .inr trivial | exact .inl (by omega))).trans ?_
    refine (if_pos (by first | omega | (simp; done) | (simp [isIntV, isBoolV, isStrV, putCells, capOf]; done) | (simp; omega) | (simp [capOf]; omega))).trans ?_
    refine (if_pos (by rw [itW_length]; omega)).trans ?_
    refine (if_pos (by refine ⟨?_, ?_, ?_, ?_, ?_⟩ <;> first | trivial | rfl | exact itW_cells _ _ | omega | (rw [itW_length]; omega) | (simp; done) | exact .inr trivial | exact .inl (by omega))).trans ?_
    iterate 2 (refine (if_pos (by first | omega | (simp; done) | (simp [isIntV, isBoolV, isStrV, putCells, capOf]; done) | (simp; omega) | (simp [capOf]; omega))).trans ?_)
    refine (if_pos (by first | rfl | (simp [isIntV]; done))).trans ?_
    refine (if_pos (cdec_true.2 (allA okq (by rw [hlq]; omega) rfl hlq.symm (-1) (by omega) ((cAm _).trans hlq) (by rw [← hlq, List.take_length]) _ (par := some 2) rfl rfl))).trans ?_
    refine (if_pos (cdec_true.2 (allA okq (by rw [hlq]; omega) rfl hlq.symm 1 (by omega) (by rw [hlq]) (rfl) _ (par := some 2) rfl rfl))).trans ?_
    iterate 2 (refine (if_neg (by first | (simp only [wrapAL, wrapAR, wrapSL, wrapSR, bne_iff_ne, ne_eq, beq_iff_eq, decide_eq_true_eq, decide_eq_false_iff_not, beq_eq_false_iff_ne, bne_eq_false_iff_eq, Decidable.not_not, ge_iff_le, gt_iff_lt, Int.not_lt, Int.not_le]; done) | (simp only [wrapAL, wrapAR, wrapSL, wrapSR, bne_iff_ne, ne_eq, beq_iff_eq, decide_eq_true_eq, decide_eq_false_iff_not, beq_eq_false_iff_ne, bne_eq_false_iff_eq, Decidable.not_not, ge_iff_le, gt_iff_lt, Int.not_lt, Int.not_le]; omega) | (simp only [wrapAL, wrapAR, wrapSL, wrapSR, bne_iff_ne, ne_eq, beq_iff_eq, decide_eq_true_eq, decide_eq_false_iff_not, beq_eq_false_iff_ne, bne_eq_false_iff_eq, Decidable.not_not, ge_iff_le, gt_iff_lt, Int.not_lt, Int.not_le]; rw [wrapI64 (by omega)] <;> omega) | (simp only [wrapAL, wrapAR, wrapSL, wrapSR, bne_iff_ne, ne_eq, beq_iff_eq, decide_eq_true_eq, decide_eq_false_iff_not, beq_eq_false_iff_ne, bne_eq_false_iff_eq, Decidable.not_not, ge_iff_le, gt_iff_lt, Int.not_lt, Int.not_le]; rw [wrapI64 (by omega), wrapI64 (by omega)] <;> omega) | (simp; done) | (simp; omega))).trans ?_)
    refine (if_neg (by simp [intV])).trans ?_
    refine (if_neg (by first | (simp only [wrapAL, wrapAR, wrapSL, wrapSR, bne_iff_ne, ne_eq, beq_iff_eq, decide_eq_true_eq, decide_eq_false_iff_not, beq_eq_false_iff_ne, bne_eq_false_iff_eq, Decidable.not_not, ge_iff_le, gt_iff_lt, Int.not_lt, Int.not_le]; done) | (simp only [wrapAL, wrapAR, wrapSL, wrapSR, bne_iff_ne, ne_eq, beq_iff_eq, decide_eq_true_eq, decide_eq_false_iff_not, beq_eq_false_iff_ne, bne_eq_false_iff_eq, Decidable.not_not, ge_iff_le, gt_iff_lt, Int.not_lt, Int.not_le]; omega) | (simp only [wrapAL, wrapAR, wrapSL, wrapSR, bne_iff_ne, ne_eq, beq_iff_eq, decide_eq_true_eq, decide_eq_false_iff_not, beq_eq_false_iff_ne, bne_eq_false_iff_eq, Decidable.not_not, ge_iff_le, gt_iff_lt, Int.not_lt, Int.not_le]; rw [wrapI64 (by omega)] <;> omega) | (simp only [wrapAL, wrapAR, wrapSL, wrapSR, bne_iff_ne, ne_eq, beq_iff_eq, decide_eq_true_eq, decide_eq_false_iff_not, beq_eq_false_iff_ne, bne_eq_false_iff_eq, Decidable.not_not, ge_iff_le, gt_iff_lt, Int.not_lt, Int.not_le]; rw [wrapI64 (by omega), wrapI64 (by omega)] <;> omega) | (simp; done) | (simp; omega))).trans ?_
    refine (if_pos (by rw [if_neg (by decide)]; exact bne_eq_false_iff_eq.2 (cA1 _))).trans ?_
    refine (if_pos (cdec_true.2 L2)).trans ?_
    rfl
  · exact gcFA 7 11 (pc := some 2) (pd := some 9) rfl rfl rfl rfl (by omega) (by omega) (by rintro q ⟨rfl⟩; rfl) (by rintro q ⟨rfl⟩; rfl) hfC hfD hlq.symm hlq.symm rfl rfl

theorem nmA_z {z : Int} (h : (z % 9 == 8) = false) : nmA z ≠ [122] := by
  have h8 : z % 9 ≠ 8 := beq_eq_false_iff_ne.1 h
  have : z % 9 = 0 ∨ z % 9 = 1 ∨ z % 9 = 2 ∨ z % 9 = 3 ∨ z % 9 = 4 ∨ z % 9 = 5 ∨ z % 9 = 6 ∨ z % 9 = 7 := by omega
  unfold nmA
  rcases this with e | e | e | e | e | e | e | e <;> rw [e] <;> decide
theorem faSt_z (m : Nat) (l : List Int) : ∀ i, ∀ p ∈ (faSt m l i).q.P, p.1 ≠ [122]
  | 0, p, hp => by simp [faSt] at hp
  | i + 1, p, hp => by
    have ih := faSt_z m l i
    have e : faSt m l (i + 1) = faStep m i (l.getD i 0) (faSt m l i) := rfl
    rw [e] at hp
    generalize faSt m l i = s at ih hp
    unfold faStep at hp
    split at hp
    · unfold faPop at hp
      split at hp
      · exact ih p hp
      · exact ih p (List.mem_of_mem_tail hp)
    · rename_i hz
      unfold faPush at hp
      split at hp
      · exact ih p hp
      · split at hp
        · exact ih p hp
        · simp only [FQ.push, List.mem_append, List.mem_singleton] at hp
          rcases hp with hp | rfl
          · exact ih p hp
          · exact nmA_z (by simpa using hz)
theorem nextFA {m i : Nat} (l : List Int) (hm : 1 ≤ m ∧ m ≤ 256) (hl : l.length ≤ 100) (hi : i < l.length) : ∃ pr vs1 h1, qround Try.prog tFA 100 5 pr lsFA FA0 mFA0 (sFA m l i (faSt m l i)).1 (sFA m l i (faSt m l i)).2 = some (.norm, vs1, h1) ∧ Gc 2 vs1 h1 (sFA m l (i + 1) (faSt m l (i + 1))).1 (sFA m l (i + 1) (faSt m l (i + 1))).2 := by
  have ok := faSt_ok m l i
  have e : faSt m l (i + 1) = faStep m i (l.getD i 0) (faSt m l i) := rfl
  rw [e]
  generalize faSt m l i = s at ok
  cases hz : (l.getD i 0 % 9 == 8)
  · by_cases hk : 0 ≤ ixIxsi s.q.P (nmA (l.getD i 0))
    · exact ⟨_, stepFAH ok hm hl hi hz hk⟩
    · by_cases hf : m ≤ s.q.P.length
      · exact ⟨_, stepFAF ok hm hl hi hz (by omega) hf⟩
      · exact ⟨_, stepFAO ok hm hl hi hz (by omega) (by omega)⟩
  · by_cases he : s.q.P.length = 0
    · exact ⟨_, stepFAZ ok hm hl hi hz he⟩
    · by_cases h1 : s.q.P.length = 1
      · exact ⟨_, stepFAE ok hm hl hi hz h1⟩
      · exact ⟨_, stepFAP ok hm hl hi hz (by omega)⟩

theorem preFA (m : Nat) (l : List Int) : Pre 2 (vFAi m l) (hFAi m l) (sFA m l 0 (faSt m l 0)).1 (sFA m l 0 (faSt m l 0)).2 :=
  .void 2 _ _ (vFAi m l) [farI l, .cells [.int .i64 m, .int .i64 0, .sl (some (2, 0)) 0 0 false] 3 .own none, .cells [] 2 .own none] _ _ (NRs.refl _) (.cons _ _ _ _ (.same _) (.cons _ _ _ _ (.cells _ _ _ _ _ (.same _ _ _ (.same _ _ _ (.void _ _ _ .nil)))) (.cons _ _ _ _ (.same _) .nil)))
    (.void 3 _ _ _ _ _ _ (.same _ _ _ (.same _ _ _ (.same _ _ _ (.void _ _ _ (NRs.refl _))))) (NBs.refl _) (.done _ _))
theorem loopFA {m : Nat} (l : List Int) (hm : 1 ≤ m ∧ m ≤ 256) (hl : l.length ≤ 100) : ∃ vs2 h2, Pre 2 (vFAi m l) (hFAi m l) vs2 h2 ∧ ∃ k, GReach (roundG Try.prog (deepT Try.prog tFA 100 5) (lsT lsFA) FA0 mFA0) 2 k vs2 h2 (.exit 0) (sFA m l l.length (faSt m l l.length)).1 (sFA m l l.length (faSt m l l.length)).2 :=
  ⟨_, _, preFA m l, loop_T (fun i => sFA m l i (faSt m l i)) (N := l.length) (by simp) (fun i hi => nextFA l hm hl hi) ⟨_, _, _, (nfFAs l m _ _ _ _ _ _ _).trans (if_pos (by simp)), Gc.refl⟩⟩
theorem runFifoActs (m : Int) (l : List Int) (_ : -9223372036854775808 ≤ m ∧ m < 9223372036854775808) (_ : ∀ z ∈ l, (Lit.int .i64 z).wf = true) :
    ∃ h', Runs Try.prog 5 [.int .i64 m, .sl (some (0, 0)) l.length 0 false] [farI l] (.bool true) h' := by
  by_cases hb : 100 < l.length
  · exact Runs.valT0 tFAOk (F := 100) (n := 5) (pr := [(29, .bool true)]) ((nfFDl m l _).trans (if_pos (by simp; omega)))
  by_cases hm : m < 1 ∨ 256 < m
  · refine Runs.valT0 tFAOk (F := 100) (n := 5) (pr := [(29, .bool false), (41, .bool true)]) ((nfFDb m l _).trans ?_)
    refine (if_pos (by simp; omega)).trans ?_
    by_cases h1 : m < 1
    · refine (if_pos (by simp; omega)).trans ?_
      exact if_pos (by simp; omega)
    · refine (if_neg (by simp; omega)).trans ?_
      refine (if_pos (by simp; omega)).trans ?_
      refine (if_neg (by simp; omega)).trans ?_
      exact if_pos (by simp; omega)
  obtain ⟨M, rfl⟩ : ∃ M : Nat, m = M := ⟨m.toNat, by omega⟩
  have hM : 1 ≤ M ∧ M ≤ 256 := by omega
  have lp : loopsOf (bodyOf Try.prog 5) = [FA0] := by kernel_rfl
  refine Runs.valT tFAOk (F := 100) (n := 5) (pr := [(29, .bool false), (41, .bool false), (56, .bool false), (284, .bool true)]) (only (k := 11) lp (fixLP_T tFAOk (F := 100) (n := 5) (LS := lsFA) lsFAOk (loopFA l hM (by omega)))) ?_
  have ok := faSt_ok M l l.length
  have hz := faSt_z M l l.length
  dsimp only [sFA]
  generalize faSt M l l.length = s at ok hz
  have hle := ok.le
  refine (nfFDm M s.q.x l s.q.o s.ow s.q.P.length s.q.C s.D _).trans ?_
  have hr := ok.ok.row (hp := hFDm1 M s.q.x l s.q.o s.ow s.q.P.length s.q.C s.D) (k := 2) (md := .own) (par := none) (r := 0) (e := false) rfl
  have hI := RIxsi.mk s.q.P [122] (hFDm1 M s.q.x l s.q.o s.ow s.q.P.length s.q.C s.D) _ 4 .own none hr.1 hr.2 rfl (by omega) (-1) (by
    rcases ix_neg (P := s.q.P) (k := [122]) with e | ⟨e, _⟩
    · exact e
    · exact absurd (at_key e) (hz _ (List.getElem_mem e)))
  have hc := cIxsi hI
  refine (if_pos (by simp; omega)).trans ?_
  refine (if_neg (by simp; omega)).trans ?_
  refine (if_neg (by simp; omega)).trans ?_
  refine (if_neg (by simp; omega)).trans ?_
  refine (if_pos (by simp; omega)).trans ?_
  refine (if_pos (cdec_true.2 ⟨rfl, rfl⟩)).trans ?_
  refine (if_pos (cdec_true.2 (hc.symm ▸ hI))).trans ?_
  exact if_pos (decide_eq_true (Int.lt_of_le_of_lt (Int.le_of_eq hc) (by decide)))


end Go.Proofs.Ytdildbadafdbgaa.L
