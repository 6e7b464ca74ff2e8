/- names and same. -/
import Derived.Test.YthbneddbigclfaaNamN
set_option autoImplicit false
set_option maxRecDepth 100000
set_option linter.unusedVariables false
set_option linter.unusedSimpArgs false
namespace Go.Proofs.Ythbneddbigclfaa.L
open Go Go.Abs

def namP (l : List UInt8) (m : Int) : List (List UInt8 × Int) := if m < 0 then lyP l else (lyP l).take m.toNat
inductive NamR : List AV → AHeap → AV → AHeap → Prop
  | mk (l : List UInt8) (m : Int) (h : AHeap) (a : AV) (k : Nat) (n : Nat) (C : List AV) (g : bOk h a = true ∧ bOf h a = l) (hl : l.length ≤ 3000) (hk : h.length = k) (hn : (namP l m).length = n) (hC : lyC (namP l m) = C) : NamR [a, .int .i64 m] h (.sl (some (k, 0)) n 0 false) [.cells C 2 .own none]

theorem namRun0 (l : List UInt8) (m : Int) (hl : l.length ≤ 3000) (hp : lyP l = []) : ∃ v1 h1, Runs Try.prog 16 [slB 0 l, .int .i64 m] [farB l] v1 h1 ∧ ∃ ks, ∀ q, Den h1 1 q ks v1 (.sl (some (q, 0)) (namP l m).length 0 false) [.cells (lyC (namP l m)) 2 .own none] ∧ KsOk ks := by
  have hps : namP l m = [] := by unfold namP; rw [hp]; split <;> simp
  refine ⟨(AV.sl none 0 0 true), (hNam02 l [] [] [] [] m 0 0 0 0), Runs.ofT0 (tNamOk [] 0) (F := 100) (n := 6) (pr := []) ?_, [none], fun q => ⟨by rw [hps]; exact .nil q _ 2, ksOk1 _⟩⟩
  refine (nfNam0 l [] [] [] [] m 0 0 0 0 _).trans ?_
  refine (if_pos (cdec_true.2 (LayR.mk l _ _ _ 0 _ (bOk_row rfl rfl rfl) hl rfl (by rw [hp]; rfl) (by rw [hp]; rfl)))).trans ?_
  rfl

theorem namRun1 (l : List UInt8) (s0 : List UInt8) (a0 : Int) (m : Int) (hl : l.length ≤ 3000) (hp : lyP l = [(s0, a0)]) : ∃ v1 h1, Runs Try.prog 16 [slB 0 l, .int .i64 m] [farB l] v1 h1 ∧ ∃ ks, ∀ q, Den h1 1 q ks v1 (.sl (some (q, 0)) (namP l m).length 0 false) [.cells (lyC (namP l m)) 2 .own none] ∧ KsOk ks := by
  by_cases e0 : m = 0
  case pos =>
    have hps : namP l m = [] := by unfold namP; rw [hp, if_neg (by omega), e0]; rfl
    refine ⟨(AV.sl none 0 0 true), (hNam12 l s0 [] [] [] m a0 0 0 0), Runs.ofT0 (tNamOk [AV.str s0, AV.int .i64 a0] 1) (F := 100) (n := 6) (pr := []) ?_, [none], fun q => ⟨by rw [hps]; exact .nil q _ 2, ksOk1 _⟩⟩
    refine (nfNam1 l s0 [] [] [] m a0 0 0 0 _).trans ?_
    refine (if_pos (cdec_true.2 (LayR.mk l _ _ _ 1 _ (bOk_row rfl rfl rfl) hl rfl (by rw [hp]; rfl) (by rw [hp]; rfl)))).trans ?_
    refine (if_pos (by simp only [intV, beq_iff_eq]; omega)).trans ?_
    rfl
  have hps : namP l m = [(s0, a0)] := by unfold namP; rw [hp]; split; rfl; exact List.take_of_length_le (by simp; omega)
  refine ⟨(AV.sl (some (8, 0)) 1 0 false), (hNam13 l s0 [] [] [] m a0 0 0 0), Runs.ofT0 (tNamOk [AV.str s0, AV.int .i64 a0] 1) (F := 100) (n := 6) (pr := []) ?_, [some 8], fun q => ⟨by rw [hps]; exact denL (R := []) (by decide) rfl rfl (by decide) (by decide), ksOk1 _⟩⟩
  refine (nfNam1 l s0 [] [] [] m a0 0 0 0 _).trans ?_
  refine (if_pos (cdec_true.2 (LayR.mk l _ _ _ 1 _ (bOk_row rfl rfl rfl) hl rfl (by rw [hp]; rfl) (by rw [hp]; rfl)))).trans ?_
  refine (if_neg (by simp only [intV, beq_iff_eq]; omega)).trans ?_
  rfl

theorem namRun2 (l : List UInt8) (s0 s1 : List UInt8) (a0 a1 : Int) (m : Int) (hl : l.length ≤ 3000) (hp : lyP l = [(s0, a0), (s1, a1)]) : ∃ v1 h1, Runs Try.prog 16 [slB 0 l, .int .i64 m] [farB l] v1 h1 ∧ ∃ ks, ∀ q, Den h1 1 q ks v1 (.sl (some (q, 0)) (namP l m).length 0 false) [.cells (lyC (namP l m)) 2 .own none] ∧ KsOk ks := by
  by_cases e0 : m = 0
  case pos =>
    have hps : namP l m = [] := by unfold namP; rw [hp, if_neg (by omega), e0]; rfl
    refine ⟨(AV.sl none 0 0 true), (hNam22 l s0 s1 [] [] m a0 a1 0 0), Runs.ofT0 (tNamOk [AV.str s0, AV.int .i64 a0, AV.str s1, AV.int .i64 a1] 2) (F := 100) (n := 6) (pr := []) ?_, [none], fun q => ⟨by rw [hps]; exact .nil q _ 2, ksOk1 _⟩⟩
    refine (nfNam2 l s0 s1 [] [] m a0 a1 0 0 _).trans ?_
    refine (if_pos (cdec_true.2 (LayR.mk l _ _ _ 2 _ (bOk_row rfl rfl rfl) hl rfl (by rw [hp]; rfl) (by rw [hp]; rfl)))).trans ?_
    refine (if_pos (by simp only [intV, beq_iff_eq]; omega)).trans ?_
    rfl
  by_cases e1 : m = 1
  case pos =>
    have hps : namP l m = [(s0, a0)] := by unfold namP; rw [hp, if_neg (by omega), e1]; rfl
    refine ⟨(AV.sl (some (8, 0)) 1 0 false), (hNam23 l s0 s1 [] [] m a0 a1 0 0), Runs.ofT0 (tNamOk [AV.str s0, AV.int .i64 a0, AV.str s1, AV.int .i64 a1] 2) (F := 100) (n := 6) (pr := []) ?_, [some 8], fun q => ⟨by rw [hps]; exact denL (R := []) (by decide) rfl rfl (by decide) (by decide), ksOk1 _⟩⟩
    refine (nfNam2 l s0 s1 [] [] m a0 a1 0 0 _).trans ?_
    refine (if_pos (cdec_true.2 (LayR.mk l _ _ _ 2 _ (bOk_row rfl rfl rfl) hl rfl (by rw [hp]; rfl) (by rw [hp]; rfl)))).trans ?_
    refine (if_neg (by simp only [intV, beq_iff_eq]; omega)).trans ?_
    refine (if_pos (by simp only [intV, beq_iff_eq]; omega)).trans ?_
    rfl
  have hps : namP l m = [(s0, a0), (s1, a1)] := by unfold namP; rw [hp]; split; rfl; exact List.take_of_length_le (by simp; omega)
  refine ⟨(AV.sl (some (11, 0)) 2 0 false), (hNam24 l s0 s1 [] [] m a0 a1 0 0), Runs.ofT0 (tNamOk [AV.str s0, AV.int .i64 a0, AV.str s1, AV.int .i64 a1] 2) (F := 100) (n := 6) (pr := []) ?_, [some 11], fun q => ⟨by rw [hps]; exact denL (R := []) (by decide) rfl rfl (by decide) (by decide), ksOk1 _⟩⟩
  refine (nfNam2 l s0 s1 [] [] m a0 a1 0 0 _).trans ?_
  refine (if_pos (cdec_true.2 (LayR.mk l _ _ _ 2 _ (bOk_row rfl rfl rfl) hl rfl (by rw [hp]; rfl) (by rw [hp]; rfl)))).trans ?_
  refine (if_neg (by simp only [intV, beq_iff_eq]; omega)).trans ?_
  refine (if_neg (by simp only [intV, beq_iff_eq]; omega)).trans ?_
  rfl

theorem namRun3 (l : List UInt8) (s0 s1 s2 : List UInt8) (a0 a1 a2 : Int) (m : Int) (hl : l.length ≤ 3000) (hp : lyP l = [(s0, a0), (s1, a1), (s2, a2)]) : ∃ v1 h1, Runs Try.prog 16 [slB 0 l, .int .i64 m] [farB l] v1 h1 ∧ ∃ ks, ∀ q, Den h1 1 q ks v1 (.sl (some (q, 0)) (namP l m).length 0 false) [.cells (lyC (namP l m)) 2 .own none] ∧ KsOk ks := by
  by_cases e0 : m = 0
  case pos =>
    have hps : namP l m = [] := by unfold namP; rw [hp, if_neg (by omega), e0]; rfl
    refine ⟨(AV.sl none 0 0 true), (hNam32 l s0 s1 s2 [] m a0 a1 a2 0), Runs.ofT0 (tNamOk [AV.str s0, AV.int .i64 a0, AV.str s1, AV.int .i64 a1, AV.str s2, AV.int .i64 a2] 3) (F := 100) (n := 6) (pr := []) ?_, [none], fun q => ⟨by rw [hps]; exact .nil q _ 2, ksOk1 _⟩⟩
    refine (nfNam3 l s0 s1 s2 [] m a0 a1 a2 0 _).trans ?_
    refine (if_pos (cdec_true.2 (LayR.mk l _ _ _ 3 _ (bOk_row rfl rfl rfl) hl rfl (by rw [hp]; rfl) (by rw [hp]; rfl)))).trans ?_
    refine (if_pos (by simp only [intV, beq_iff_eq]; omega)).trans ?_
    rfl
  by_cases e1 : m = 1
  case pos =>
    have hps : namP l m = [(s0, a0)] := by unfold namP; rw [hp, if_neg (by omega), e1]; rfl
    refine ⟨(AV.sl (some (8, 0)) 1 0 false), (hNam33 l s0 s1 s2 [] m a0 a1 a2 0), Runs.ofT0 (tNamOk [AV.str s0, AV.int .i64 a0, AV.str s1, AV.int .i64 a1, AV.str s2, AV.int .i64 a2] 3) (F := 100) (n := 6) (pr := []) ?_, [some 8], fun q => ⟨by rw [hps]; exact denL (R := []) (by decide) rfl rfl (by decide) (by decide), ksOk1 _⟩⟩
    refine (nfNam3 l s0 s1 s2 [] m a0 a1 a2 0 _).trans ?_
    refine (if_pos (cdec_true.2 (LayR.mk l _ _ _ 3 _ (bOk_row rfl rfl rfl) hl rfl (by rw [hp]; rfl) (by rw [hp]; rfl)))).trans ?_
    refine (if_neg (by simp only [intV, beq_iff_eq]; omega)).trans ?_
    refine (if_pos (by simp only [intV, beq_iff_eq]; omega)).trans ?_
    rfl
  by_cases e2 : m = 2
  case pos =>
    have hps : namP l m = [(s0, a0), (s1, a1)] := by unfold namP; rw [hp, if_neg (by omega), e2]; rfl
    refine ⟨(AV.sl (some (11, 0)) 2 0 false), (hNam34 l s0 s1 s2 [] m a0 a1 a2 0), Runs.ofT0 (tNamOk [AV.str s0, AV.int .i64 a0, AV.str s1, AV.int .i64 a1, AV.str s2, AV.int .i64 a2] 3) (F := 100) (n := 6) (pr := []) ?_, [some 11], fun q => ⟨by rw [hps]; exact denL (R := []) (by decide) rfl rfl (by decide) (by decide), ksOk1 _⟩⟩
    refine (nfNam3 l s0 s1 s2 [] m a0 a1 a2 0 _).trans ?_
    refine (if_pos (cdec_true.2 (LayR.mk l _ _ _ 3 _ (bOk_row rfl rfl rfl) hl rfl (by rw [hp]; rfl) (by rw [hp]; rfl)))).trans ?_
    refine (if_neg (by simp only [intV, beq_iff_eq]; omega)).trans ?_
    refine (if_neg (by simp only [intV, beq_iff_eq]; omega)).trans ?_
    refine (if_pos (by simp only [intV, beq_iff_eq]; omega)).trans ?_
    rfl
  have hps : namP l m = [(s0, a0), (s1, a1), (s2, a2)] := by unfold namP; rw [hp]; split; rfl; exact List.take_of_length_le (by simp; omega)
  refine ⟨(AV.sl (some (14, 0)) 3 0 false), (hNam35 l s0 s1 s2 [] m a0 a1 a2 0), Runs.ofT0 (tNamOk [AV.str s0, AV.int .i64 a0, AV.str s1, AV.int .i64 a1, AV.str s2, AV.int .i64 a2] 3) (F := 100) (n := 6) (pr := []) ?_, [some 14], fun q => ⟨by rw [hps]; exact denL (R := []) (by decide) rfl rfl (by decide) (by decide), ksOk1 _⟩⟩
  refine (nfNam3 l s0 s1 s2 [] m a0 a1 a2 0 _).trans ?_
  refine (if_pos (cdec_true.2 (LayR.mk l _ _ _ 3 _ (bOk_row rfl rfl rfl) hl rfl (by rw [hp]; rfl) (by rw [hp]; rfl)))).trans ?_
  refine (if_neg (by simp only [intV, beq_iff_eq]; omega)).trans ?_
  refine (if_neg (by simp only [intV, beq_iff_eq]; omega)).trans ?_
  refine (if_neg (by simp only [intV, beq_iff_eq]; omega)).trans ?_
  rfl

theorem namRun4 (l : List UInt8) (s0 s1 s2 s3 : List UInt8) (a0 a1 a2 a3 : Int) (m : Int) (hl : l.length ≤ 3000) (hp : lyP l = [(s0, a0), (s1, a1), (s2, a2), (s3, a3)]) : ∃ v1 h1, Runs Try.prog 16 [slB 0 l, .int .i64 m] [farB l] v1 h1 ∧ ∃ ks, ∀ q, Den h1 1 q ks v1 (.sl (some (q, 0)) (namP l m).length 0 false) [.cells (lyC (namP l m)) 2 .own none] ∧ KsOk ks := by
  by_cases e0 : m = 0
  case pos =>
    have hps : namP l m = [] := by unfold namP; rw [hp, if_neg (by omega), e0]; rfl
    refine ⟨(AV.sl none 0 0 true), (hNam42 l s0 s1 s2 s3 m a0 a1 a2 a3), Runs.ofT0 (tNamOk [AV.str s0, AV.int .i64 a0, AV.str s1, AV.int .i64 a1, AV.str s2, AV.int .i64 a2, AV.str s3, AV.int .i64 a3] 4) (F := 100) (n := 6) (pr := []) ?_, [none], fun q => ⟨by rw [hps]; exact .nil q _ 2, ksOk1 _⟩⟩
    refine (nfNam4 l s0 s1 s2 s3 m a0 a1 a2 a3 _).trans ?_
    refine (if_pos (cdec_true.2 (LayR.mk l _ _ _ 4 _ (bOk_row rfl rfl rfl) hl rfl (by rw [hp]; rfl) (by rw [hp]; rfl)))).trans ?_
    refine (if_pos (by simp only [intV, beq_iff_eq]; omega)).trans ?_
    rfl
  by_cases e1 : m = 1
  case pos =>
    have hps : namP l m = [(s0, a0)] := by unfold namP; rw [hp, if_neg (by omega), e1]; rfl
    refine ⟨(AV.sl (some (8, 0)) 1 0 false), (hNam43 l s0 s1 s2 s3 m a0 a1 a2 a3), Runs.ofT0 (tNamOk [AV.str s0, AV.int .i64 a0, AV.str s1, AV.int .i64 a1, AV.str s2, AV.int .i64 a2, AV.str s3, AV.int .i64 a3] 4) (F := 100) (n := 6) (pr := []) ?_, [some 8], fun q => ⟨by rw [hps]; exact denL (R := []) (by decide) rfl rfl (by decide) (by decide), ksOk1 _⟩⟩
    refine (nfNam4 l s0 s1 s2 s3 m a0 a1 a2 a3 _).trans ?_
    refine (if_pos (cdec_true.2 (LayR.mk l _ _ _ 4 _ (bOk_row rfl rfl rfl) hl rfl (by rw [hp]; rfl) (by rw [hp]; rfl)))).trans ?_
    refine (if_neg (by simp only [intV, beq_iff_eq]; omega)).trans ?_
    refine (if_pos (by simp only [intV, beq_iff_eq]; omega)).trans ?_
    rfl
  by_cases e2 : m = 2
  case pos =>
    have hps : namP l m = [(s0, a0), (s1, a1)] := by unfold namP; rw [hp, if_neg (by omega), e2]; rfl
    refine ⟨(AV.sl (some (11, 0)) 2 0 false), (hNam44 l s0 s1 s2 s3 m a0 a1 a2 a3), Runs.ofT0 (tNamOk [AV.str s0, AV.int .i64 a0, AV.str s1, AV.int .i64 a1, AV.str s2, AV.int .i64 a2, AV.str s3, AV.int .i64 a3] 4) (F := 100) (n := 6) (pr := []) ?_, [some 11], fun q => ⟨by rw [hps]; exact denL (R := []) (by decide) rfl rfl (by decide) (by decide), ksOk1 _⟩⟩
    refine (nfNam4 l s0 s1 s2 s3 m a0 a1 a2 a3 _).trans ?_
    refine (if_pos (cdec_true.2 (LayR.mk l _ _ _ 4 _ (bOk_row rfl rfl rfl) hl rfl (by rw [hp]; rfl) (by rw [hp]; rfl)))).trans ?_
    refine (if_neg (by simp only [intV, beq_iff_eq]; omega)).trans ?_
    refine (if_neg (by simp only [intV, beq_iff_eq]; omega)).trans ?_
    refine (if_pos (by simp only [intV, beq_iff_eq]; omega)).trans ?_
    rfl
  by_cases e3 : m = 3
  case pos =>
    have hps : namP l m = [(s0, a0), (s1, a1), (s2, a2)] := by unfold namP; rw [hp, if_neg (by omega), e3]; rfl
    refine ⟨(AV.sl (some (14, 0)) 3 0 false), (hNam45 l s0 s1 s2 s3 m a0 a1 a2 a3), Runs.ofT0 (tNamOk [AV.str s0, AV.int .i64 a0, AV.str s1, AV.int .i64 a1, AV.str s2, AV.int .i64 a2, AV.str s3, AV.int .i64 a3] 4) (F := 100) (n := 6) (pr := []) ?_, [some 14], fun q => ⟨by rw [hps]; exact denL (R := []) (by decide) rfl rfl (by decide) (by decide), ksOk1 _⟩⟩
    refine (nfNam4 l s0 s1 s2 s3 m a0 a1 a2 a3 _).trans ?_
    refine (if_pos (cdec_true.2 (LayR.mk l _ _ _ 4 _ (bOk_row rfl rfl rfl) hl rfl (by rw [hp]; rfl) (by rw [hp]; rfl)))).trans ?_
    refine (if_neg (by simp only [intV, beq_iff_eq]; omega)).trans ?_
    refine (if_neg (by simp only [intV, beq_iff_eq]; omega)).trans ?_
    refine (if_neg (by simp only [intV, beq_iff_eq]; omega)).trans ?_
    refine (if_pos (by simp only [intV, beq_iff_eq]; omega)).trans ?_
    rfl
  have hps : namP l m = [(s0, a0), (s1, a1), (s2, a2), (s3, a3)] := by unfold namP; rw [hp]; split; rfl; exact List.take_of_length_le (by simp; omega)
  refine ⟨(AV.sl (some (17, 0)) 4 0 false), (hNam46 l s0 s1 s2 s3 m a0 a1 a2 a3), Runs.ofT0 (tNamOk [AV.str s0, AV.int .i64 a0, AV.str s1, AV.int .i64 a1, AV.str s2, AV.int .i64 a2, AV.str s3, AV.int .i64 a3] 4) (F := 100) (n := 6) (pr := []) ?_, [some 17], fun q => ⟨by rw [hps]; exact denL (R := []) (by decide) rfl rfl (by decide) (by decide), ksOk1 _⟩⟩
  refine (nfNam4 l s0 s1 s2 s3 m a0 a1 a2 a3 _).trans ?_
  refine (if_pos (cdec_true.2 (LayR.mk l _ _ _ 4 _ (bOk_row rfl rfl rfl) hl rfl (by rw [hp]; rfl) (by rw [hp]; rfl)))).trans ?_
  refine (if_neg (by simp only [intV, beq_iff_eq]; omega)).trans ?_
  refine (if_neg (by simp only [intV, beq_iff_eq]; omega)).trans ?_
  refine (if_neg (by simp only [intV, beq_iff_eq]; omega)).trans ?_
  refine (if_neg (by simp only [intV, beq_iff_eq]; omega)).trans ?_
  rfl

theorem sNam (L : List (Nat × AV × AHeap)) : SoundE Try.prog 16 (entF (eRel NamR L)) := by
  refine relR_sound (fun args h v new hR => ?_) L
  cases hR with
  | mk l m _ a k n C g hl hk hn hC =>
  subst hk hn hC
  obtain ⟨gb, rfl⟩ := g
  have key : ∃ v1 h1, Runs Try.prog 16 [slB 0 (bOf h a), .int .i64 m] [farB (bOf h a)] v1 h1 ∧ ∃ ks, ∀ q, Den h1 1 q ks v1 (.sl (some (q, 0)) (namP (bOf h a) m).length 0 false) [.cells (lyC (namP (bOf h a) m)) 2 .own none] ∧ KsOk ks := by
    have h4 := lyP_le (bOf h a)
    match hp : lyP (bOf h a), h4 with
    | [], _ => exact namRun0 _ m hl hp
    | [(s0, a0)], _ => exact namRun1 _ s0 a0 m hl hp
    | [(s0, a0), (s1, a1)], _ => exact namRun2 _ s0 s1 a0 a1 m hl hp
    | [(s0, a0), (s1, a1), (s2, a2)], _ => exact namRun3 _ s0 s1 s2 a0 a1 a2 m hl hp
    | [(s0, a0), (s1, a1), (s2, a2), (s3, a3)], _ => exact namRun4 _ s0 s1 s2 s3 a0 a1 a2 a3 m hl hp
    | _ :: _ :: _ :: _ :: _ :: _, h4 => simp at h4
  obtain ⟨v1, h1, hr, ks, hd⟩ := key
  exact ⟨[slB 0 (bOf h a), .int .i64 m], [farB (bOf h a)], .cons _ _ _ _ _ _ _ (bOk_canon gb 0) (.cons _ _ _ _ _ _ _ (.flat _ _ rfl) (.nil _)), v1, h1, hr, ks, (hd _).1, (hd 0).2⟩
inductive SamR : List AV → AHeap → AV → AHeap → Prop
  | mk (ps : List (List UInt8 × Int)) (h : AHeap) (i j n r r' : Nat) (e e' : Bool) (vs us : List AV) (md md' : Md) (par par' : Option Nat) (h4 : ps.length ≤ 4) (hn : ps.length = n) (hi : h[i]? = some (.cells vs 2 md par)) (hj : h[j]? = some (.cells us 2 md' par'))
      (hv : vs.take (n * 2) = lyC ps) (hu : us.take (n * 2) = lyC ps) : SamR [.sl (some (i, 0)) n r e, .sl (some (j, 0)) n r' e'] h (.bool true) []
theorem walkSame : ∀ (ps : List (List UInt8 × Int)), ps.length ≤ 4 → ∃ h1, Runs Try.prog 15 [.sl (some (0, 0)) ps.length 0 false, .sl (some (1, 0)) ps.length 0 false] [.cells (lyC ps) 2 .far none, .cells (lyC ps) 2 .far none] (.bool true) h1
  | [], _ => by
    refine Runs.valT0 (find_nil _) (F := 100) (n := 6) (pr := []) ?_
    refine (nfSame0 [] [] [] [] 0 0 0 0 _).trans ?_
    rfl
  | [(s0, a0)], _ => by
    refine Runs.valT0 (find_nil _) (F := 100) (n := 6) (pr := []) ?_
    refine (nfSame1 s0 [] [] [] a0 0 0 0 _).trans ?_
    refine (if_neg (by simp)).trans ?_
    rfl
  | [(s0, a0), (s1, a1)], _ => by
    refine Runs.valT0 (find_nil _) (F := 100) (n := 6) (pr := []) ?_
    refine (nfSame2 s0 s1 [] [] a0 a1 0 0 _).trans ?_
    refine (if_neg (by simp)).trans ?_
    refine (if_neg (by simp)).trans ?_
    rfl
  | [(s0, a0), (s1, a1), (s2, a2)], _ => by
    refine Runs.valT0 (find_nil _) (F := 100) (n := 6) (pr := []) ?_
    refine (nfSame3 s0 s1 s2 [] a0 a1 a2 0 _).trans ?_
    refine (if_neg (by simp)).trans ?_
    refine (if_neg (by simp)).trans ?_
    refine (if_neg (by simp)).trans ?_
    rfl
  | [(s0, a0), (s1, a1), (s2, a2), (s3, a3)], _ => by
    refine Runs.valT0 (find_nil _) (F := 100) (n := 6) (pr := []) ?_
    refine (nfSame4 s0 s1 s2 s3 a0 a1 a2 a3 _).trans ?_
    refine (if_neg (by simp)).trans ?_
    refine (if_neg (by simp)).trans ?_
    refine (if_neg (by simp)).trans ?_
    refine (if_neg (by simp)).trans ?_
    rfl
  | _ :: _ :: _ :: _ :: _ :: _, h => by simp at h
theorem sSame8 (L : List (Nat × AV × AHeap)) : SoundE Try.prog 15 (entF (eRel SamR L)) := by
  refine relR_sound (fun args h v new hR => ?_) L
  cases hR with
  | mk ps _ i j n r r' e e' vs us md md' par par' h4 hn hi hj hv hu =>
  subst hn
  obtain ⟨h1, hr⟩ := walkSame ps h4
  have lv : ps.length * 2 ≤ vs.length := by have := congrArg List.length hv; rw [lyC_len, List.length_take] at this; omega
  have lu : ps.length * 2 ≤ us.length := by have := congrArg List.length hu; rw [lyC_len, List.length_take] at this; omega
  have c1 := Canon.row (h := h) 0 i 0 ps.length r e vs 2 md par hi (by omega) (by rw [List.drop_zero, hv]; exact lyC_free ps)
  have c2 := Canon.row (h := h) 1 j 0 ps.length r' e' us 2 md' par' hj (by omega) (by rw [List.drop_zero, hu]; exact lyC_free ps)
  rw [List.drop_zero, hv] at c1
  rw [List.drop_zero, hu] at c2
  exact ⟨_, _, .cons _ _ _ _ _ _ _ c1 (.cons _ _ _ _ _ _ _ c2 (.nil _)), _, h1, hr, [], .flat _ _ rfl, ksOk0⟩

end Go.Proofs.Ythbneddbigclfaa.L
