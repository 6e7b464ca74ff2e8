/- bazaarlaw23's all: its contract. -/
import Derived.Test.YtpghomcohejejaaAlhN
set_option autoImplicit false
set_option maxRecDepth 100000
set_option linter.unusedVariables false
set_option linter.unusedSimpArgs false
namespace Go.Proofs.Ytpghomcohejejaa.L
open Go Go.Abs

def illC (x : DipC) (v : Int) : List AV := x.cells ++ [.int .i64 v]
@[simp] theorem illC_length (x : DipC) (v : Int) : (illC x v).length = 19 := by simp [illC]
theorem illC_frees (x : DipC) (v : Int) : AV.frees (illC x v) = true := frees_append x.cells_frees rfl
theorem illC_cell (x : DipC) (v : Int) : (illC x v).all AV.isCell = true := by simp [illC, List.all_append, cells_isCell]
theorem putA (x : DipC) : putCells [AV.bool false, AV.int IntKind.u8 0, AV.int IntKind.u8 0, AV.int IntKind.u8 0, AV.int IntKind.u8 0, AV.int IntKind.u8 0, AV.int IntKind.u8 0, AV.int IntKind.u8 0, AV.int IntKind.u8 0, AV.int IntKind.u8 0, AV.int IntKind.u8 0, AV.int IntKind.u8 0, AV.int IntKind.u8 0, AV.int IntKind.u8 0, AV.int IntKind.u8 0, AV.int IntKind.u8 0, AV.int IntKind.u8 0, AV.int IntKind.u16 0, AV.int IntKind.i64 0] 0 x.cells = illC x 0 := by
  rw [putCells_at _ _ _ (by rw [DipC.cells_length]; decide), List.take_zero, List.nil_append, DipC.cells_length]; rfl
theorem putB (x : DipC) (v w : Int) : putCells (illC x v) 18 [.int .i64 w] = illC x w := by
  rw [putCells_at _ _ _ (by simp)]
  unfold illC
  rw [List.take_left' (by simp), List.drop_of_length_le (by simp), List.append_nil]
theorem putC (x : DipC) (v : Int) : putCells [AV.bool false, AV.int IntKind.u8 0, AV.int IntKind.u8 0, AV.int IntKind.u8 0, AV.int IntKind.u8 0, AV.int IntKind.u8 0, AV.int IntKind.u8 0, AV.int IntKind.u8 0, AV.int IntKind.u8 0, AV.int IntKind.u8 0, AV.int IntKind.u8 0, AV.int IntKind.u8 0, AV.int IntKind.u8 0, AV.int IntKind.u8 0, AV.int IntKind.u8 0, AV.int IntKind.u8 0, AV.int IntKind.u8 0, AV.int IntKind.u16 0, AV.int IntKind.i64 0] 0 (illC x v) = illC x v := by
  rw [putCells_at _ _ _ (by rw [illC_length]; decide), List.take_zero, List.nil_append, illC_length]; exact List.append_nil _
theorem takeC (x : DipC) (v : Int) : List.take 19 (illC x v) = illC x v := List.take_of_length_le (by simp)
def itI (S : HS) (P : List DipC) : List AV := P.flatMap fun d => illC d (cntS S d)
@[simp] theorem itI_length (S : HS) : ∀ P : List DipC, (itI S P).length = P.length * 19
  | [] => rfl
  | d :: P => by
    show (illC d (cntS S d) ++ itI S P).length = _
    rw [List.length_append, illC_length, itI_length S P, List.length_cons]; omega
theorem itI_frees (S : HS) : ∀ P : List DipC, AV.frees (itI S P) = true
  | [] => rfl
  | d :: P => frees_append (illC_frees _ _) (itI_frees S P)
theorem itI_snoc (S : HS) (P : List DipC) (d : DipC) : itI S (P ++ [d]) = itI S P ++ illC d (cntS S d) := by simp [itI]
theorem take_snoc {α : Type} {P : List α} {i : Nat} (h : i < P.length) : P.take (i + 1) = P.take i ++ [P[i]] := by
  rw [List.take_add_one, List.getElem?_eq_getElem h]; rfl
theorem keep8 {k : Nat} (i : Nat) (hi : i < 7) : posOf [0, 1, 2, 3, 4, 5, 6, k] i = some i := by
  rcases (by omega : i = 0 ∨ i = 1 ∨ i = 2 ∨ i = 3 ∨ i = 4 ∨ i = 5 ∨ i = 6) with rfl | rfl | rfl | rfl | rfl | rfl | rfl <;> rfl

noncomputable def hAS (S : HS) (m : Int) (k : Nat) (I : List AV) (st : LoopState) (pend : Option AEx) : AHeap := hAl S.f m (esG S.G) S.c S.l.length S.z (rowD S.l S.z) k I st pend
noncomputable def stAl (S : HS) (m : Int) (i : Nat) : List AV × AHeap := (vAl S.l.length S.z i, hAS S m i (itI S (S.l.take i)) .ready none)
theorem stepAl {S : HS} (H : HOk 99999 S) {m : Int} {i : Nat} (hi : i < S.l.length) (hm : m ≠ i) :
    ∃ vs1 h1, qround Try.prog [] 100 4 [(13, .bool true), (25, .bool false)] noT AL mAl (stAl S m i).1 (stAl S m i).2 = some (.norm, vs1, h1) ∧ Gc 7 vs1 h1 (stAl S m (i + 1)).1 (stAl S m (i + 1)).2 := by
  have hlen := H.len
  have ea : List.take 18 (List.drop (0 + (i : Int).toNat * 18) (rowD S.l S.z)) = S.l[i].cells := by
    rw [show 0 + (i : Int).toNat * 18 = i * 18 by omega]; exact rowD_at hi
  have e5 : IntKind.i64.wrap ((i : Int) + 1) = ((i + 1 : Nat) : Int) := wrap1 (by omega)
  have lI : (itI S (S.l.take i)).length = i * 19 := by rw [itI_length, List.length_take]; omega
  have tI : List.take (i * 19) (itI S (S.l.take i)) = itI S (S.l.take i) := List.take_of_length_le (by omega)
  have hm' : ¬ ((i : Int) = m) := fun h => hm h.symm
  have A := lookOk (look_G (P := Try.prog) (r := 1) (h := hAlc0 S.f m i (esG S.G) S.c S.l.length S.z i (rowD S.l S.z) (itI S (S.l.take i))) (k := S.l[i].key) (G := S.G) (c := S.c) (s := true) rfl (dipKey H.gd _) mt57 z3)
  unfold stAl hAS
  rw [nfAlc]
  refine ⟨?_, ?_, ?_, ?_⟩
  rotate_left 2
  · rw [ea, e5, putZ, take18, putZ, take18, A.2, putA, putB, putC, takeC]
    refine (if_pos (by simp; omega)).trans ?_
    refine (if_pos (by omega)).trans ?_
    refine (if_pos (by rw [rowD_length]; omega)).trans ?_
    refine (if_pos (by simp)).trans ?_
    refine (if_pos ⟨by simp, cells_isCell _⟩).trans ?_
    iterate 2 (refine (if_pos (by simp)).trans ?_)
    refine (if_pos (cdec_true.2 (by have := A.1; rw [A.2] at this; exact this))).trans ?_
    refine (if_pos (by simp)).trans ?_
    refine (if_pos ⟨by simp, cells_isCell _⟩).trans ?_
    refine (if_neg (by simp only [intV, beq_iff_eq]; exact hm')).trans ?_
    refine (if_pos (by simp)).trans ?_
    refine (if_pos ⟨by simp, by decide⟩).trans ?_
    refine (if_pos ⟨rfl, by simp⟩).trans ?_
    refine (if_pos ⟨by simp, by decide⟩).trans ?_
    refine (if_pos (by simp)).trans ?_
    refine (if_pos ⟨by omega, rfl, by omega⟩).trans ?_
    refine (if_pos (by omega)).trans ?_
    refine (if_pos ⟨rfl, by omega, .inl (by decide), rfl, illC_cell _ _⟩).trans ?_
    rfl
  · have hc : List.take (i * 19) (itI S (S.l.take i)) ++ illC S.l[i] (valG S.G S.l[i].key) = itI S (S.l.take (i + 1)) := by rw [tI, take_snoc hi, itI_snoc]; rfl
    have hf := itI_frees S (S.l.take (i + 1))
    unfold hAlc1
    rw [ea, putZ, take18, putZ, take18, A.2, putA, putB, putC, takeC, hc]
    exact Gc.by [0, 1, 2, 3, 4, 5, 6, 11] rfl (by decide) (ARs.same keep8 rfl) (.cons _ _ _ _ _ rfl (BR.keep keep8 rfl) (.cons _ _ _ _ _ rfl (.mp _ _ _ _ _ (.free _ (gd_free H.gd))) (.cons _ _ _ _ _ rfl (.row (rowD_frees _ _) (by simp)) (.cons _ _ _ _ _ rfl (.row rfl (by simp)) (.cons _ _ _ _ _ rfl (.cells _ _ _ _ _ _ (.cons _ _ _ _ (.sl _ _ _ _ _ _ rfl) .nil) (by simp)) (.cons _ _ _ _ _ rfl (BR.keep keep8 rfl) (.cons _ _ _ _ _ rfl (BR.lpSame keep8 rfl) (.cons _ _ _ _ _ rfl (BR.grown hf rfl) .nil))))))))

theorem gc_mono {n k : Nat} {vs vs' : List AV} {h h' : AHeap} (hk : k ≤ n) (g : Gc n vs h vs' h') : Gc k vs h vs' h' := by
  rcases g with g | ⟨s, h1, h2, h3, h4⟩
  · exact .inl g
  · exact .inr ⟨s, fun j hj => h1 j (by omega), h2, h3, h4⟩
theorem gcBrk {S : HS} (H : HOk 99999 S) {m : Int} {k : Nat} {I : List AV} {st : LoopState} {pend : Option AEx} (hf : AV.frees I = true) {vs : List AV} (hv : AV.uptos 8 vs = true) (X : AHeap) : Gc 7 vs (hAS S m k I st pend ++ X) vs (hAS S m k I st pend) := by
  have hb : ∀ b ∈ hAS S m k I st pend, b.okU 8 := by
    intro b hb
    unfold hAS hAl hTel at hb
    simp only [List.cons_append, List.nil_append, List.mem_cons, List.not_mem_nil, or_false] at hb
    rcases hb with rfl | rfl | rfl | rfl | rfl | rfl | rfl | rfl
    · exact ⟨rfl, by simp⟩
    · exact gd_free H.gd
    · exact okU_free (rowD_frees _ _) (by simp)
    · exact okU_free rfl (by simp)
    · exact ⟨rfl, by simp⟩
    · exact ⟨rfl, by simp⟩
    · show AV.uptos 8 (lpAl m st pend).env = true
      rfl
    · exact okU_free hf (by simp)
  exact gc_mono (by omega) (Gc.drop (vs := vs) (h := hAS S m k I st pend) (X := X) 8 rfl hv hb)
theorem brkAl {S : HS} (H : HOk 99999 S) {i : Nat} (hi : i < S.l.length) :
    ∃ X, qround Try.prog [] 100 4 [(13, .bool true), (25, .bool true)] noT AL mAl (vAl S.l.length S.z i) (hAS S i i (itI S (S.l.take i)) .ready none) = some (.ret, vAl S.l.length S.z i, hAS S i i (itI S (S.l.take i)) .done (some (.exit 0)) ++ X) := by
  have hlen := H.len
  have ea : List.take 18 (List.drop (0 + (i : Int).toNat * 18) (rowD S.l S.z)) = S.l[i].cells := by
    rw [show 0 + (i : Int).toNat * 18 = i * 18 by omega]; exact rowD_at hi
  have A := lookOk (look_G (P := Try.prog) (r := 1) (h := hAlb0 S.f i i (esG S.G) S.c S.l.length S.z i (rowD S.l S.z) (itI S (S.l.take i))) (k := S.l[i].key) (G := S.G) (c := S.c) (s := true) rfl (dipKey H.gd _) mt57 z3)
  unfold hAS
  rw [nfAlb]
  refine ⟨[.cells S.l[i].cells 18 .own none, .cells S.l[i].cells 18 .own none], ?_⟩
  rw [ea, putZ, take18, putZ]
  refine (if_pos (by simp; omega)).trans ?_
  refine (if_pos (by omega)).trans ?_
  refine (if_pos (by rw [rowD_length]; omega)).trans ?_
  refine (if_pos (by simp)).trans ?_
  refine (if_pos ⟨by simp, cells_isCell _⟩).trans ?_
  iterate 2 (refine (if_pos (by simp)).trans ?_)
  refine (if_pos (cdec_true.2 A.1)).trans ?_
  refine (if_pos (by simp)).trans ?_
  refine (if_pos ⟨by simp, cells_isCell _⟩).trans ?_
  refine (if_pos (by simp [intV])).trans ?_
  unfold hAlb1
  rw [ea, putZ, take18, putZ]
  rfl
theorem preAl {S : HS} {m : Int} : Pre 7 (vAl S.l.length S.z 0) (hAl0 S.f m (esG S.G) S.c S.l.length S.z (rowD S.l S.z)) (stAl S m 0).1 (stAl S m 0).2 :=
  .void 19 _ _ _ _ _ _ (NRs.refl _) (.cons _ _ _ _ (.same _) (.cons _ _ _ _ (.same _) (.cons _ _ _ _ (.same _) (.cons _ _ _ _ (.same _) (.cons _ _ _ _ (.cells _ _ _ _ _ (.void _ _ _ .nil)) (.cons _ _ _ _ (.same _) (.cons _ _ _ _ (.same _) (.cons _ _ _ _ (.same _) .nil)))))))) (.done _ _)
theorem lpAL : loopsOf (bodyOf Try.prog 23) = [AL] := by kernel_rfl
def cntA (n : Nat) (m : Int) : Nat := if m < 0 then n else min m.toNat n
theorem runAll {S : HS} (H : HOk 99999 S) {m : Int} (hm : -1 ≤ m) : ∃ st pend, Runs Try.prog 16 [.ptr (some (0, 0)), .int .i64 m] (hS S) (.sl (some (7, 0)) (cntA S.l.length m) 0 false) (hAS S m (cntA S.l.length m) (itI S (S.l.take (cntA S.l.length m))) st pend) := by
  by_cases hb : 0 ≤ m ∧ m.toNat < S.l.length
  · obtain ⟨c, rfl⟩ := Int.eq_ofNat_of_zero_le hb.1
    have hc : cntA S.l.length c = c := by unfold cntA; rw [if_neg (by omega)]; omega
    rw [hc]
    have hcl : c < S.l.length := by omega
    have key : ∃ vs2 h2, Pre 7 (vAl S.l.length S.z 0) (hAl0 S.f c (esG S.G) S.c S.l.length S.z (rowD S.l S.z)) vs2 h2 ∧ ∃ k, GReach (roundG Try.prog (deepT Try.prog [] 100 4) (lsT noT) AL mAl) 7 k vs2 h2 .ret (vAl S.l.length S.z c) (hAS S c c (itI S (S.l.take c)) .done (some (.exit 0))) := by
      obtain ⟨X, hX⟩ := brkAl H hcl
      exact ⟨_, _, preAl, loop_T (stAl S c) (N := c) (by simp) (fun i hi => ⟨_, stepAl H (by omega) (by omega)⟩) ⟨_, _, _, hX, gcBrk H (itI_frees _ _) rfl X⟩⟩
    have R : Runs Try.prog 23 [.fn (.yield 6) [], .ptr (some (5, 0))] (hAl0 S.f c (esG S.G) S.c S.l.length S.z (rowD S.l S.z)) (.tup []) (hAS S c c (itI S (S.l.take c)) .done (some (.exit 0))) :=
      Runs.ofT (find_nil _) (F := 100) (n := 4) (pr := []) (only (k := 2) lpAL (fixLP_T (find_nil _) (F := 100) (n := 4) (LS := noT) (noLoops (by kernel_rfl)) key)) ((nfAlNb _ _ _ _ _ _ _ _ _ _ _).trans (if_pos (cdec_true.2 ⟨rfl, rfl⟩)))
    exact ⟨_, _, Runs.ofT0 (find_cons (fixE_sound R) (find_nil _)) (F := 100) (n := 4) (pr := []) ((nfAlMb _ _ _ _ _ _ _ _ _ _).trans (if_pos (cdec_true.2 ⟨rfl, rfl⟩)))⟩
  · have hc : cntA S.l.length m = S.l.length := by unfold cntA; split <;> omega
    rw [hc]
    have key : ∃ vs2 h2, Pre 7 (vAl S.l.length S.z 0) (hAl0 S.f m (esG S.G) S.c S.l.length S.z (rowD S.l S.z)) vs2 h2 ∧ ∃ k, GReach (roundG Try.prog (deepT Try.prog [] 100 4) (lsT noT) AL mAl) 7 k vs2 h2 (.exit 0) (vAl S.l.length S.z S.l.length) (hAS S m S.l.length (itI S (S.l.take S.l.length)) .ready none) :=
      ⟨_, _, preAl, loop_T (stAl S m) (N := S.l.length) (by simp) (fun i hi => ⟨_, stepAl H (by omega) (by omega)⟩) ⟨_, _, _, (nfAls _ _ _ _ _ _ _ _ _ _).trans (if_pos (by simp)), Gc.refl⟩⟩
    have R : Runs Try.prog 23 [.fn (.yield 6) [], .ptr (some (5, 0))] (hAl0 S.f m (esG S.G) S.c S.l.length S.z (rowD S.l S.z)) (.tup []) (hAS S m S.l.length (itI S (S.l.take S.l.length)) .ready none) :=
      Runs.ofT (find_nil _) (F := 100) (n := 4) (pr := []) (only (k := 2) lpAL (fixLP_T (find_nil _) (F := 100) (n := 4) (LS := noT) (noLoops (by kernel_rfl)) key)) ((nfAlNe _ _ _ _ _ _ _ _ _ _ _).trans (if_pos (cdec_true.2 ⟨rfl, rfl⟩)))
    exact ⟨_, _, Runs.ofT0 (find_cons (fixE_sound R) (find_nil _)) (F := 100) (n := 4) (pr := []) ((nfAlMe _ _ _ _ _ _ _ _ _ _).trans (if_pos (cdec_true.2 ⟨rfl, rfl⟩)))⟩

structure AllOk (S : HS) (mo : Int) (f : Int) (es : List (AV × AV × Nat)) (c n z : Nat) (C : List AV) : Prop where
  hes : es = esG S.G
  hf : f = S.f
  hc : c = S.c
  hn : n = S.l.length
  hz : z = S.z
  hC : C = rowD S.l S.z
  hm : -1 ≤ mo
  ok : HOk 99999 S
theorem allOk {S : HS} (H : HOk 99999 S) {mo : Int} (hm : -1 ≤ mo) : AllOk (unS S.f (esG S.G) S.c S.z (rowD S.l S.z)) mo S.f (esG S.G) S.c S.l.length S.z (rowD S.l S.z) := by
  rw [unS_eq]; exact ⟨rfl, rfl, rfl, rfl, rfl, rfl, hm, H⟩
noncomputable def eAll : GEnt := fun args h => match args with
  | [.ptr (some (a, 0)), .int .i64 mo] => match h[a]? with
    | some (.cells [.int .i64 f, .map (some m), .sl (some (o, 0)) n z false] 3 .own none) => match h[m]?, h[o]? with
      | some (.mp es c true), some (.cells C 18 .own none) =>
        some (cdec (a ≠ m ∧ a ≠ o ∧ m ≠ o ∧ AllOk (unS f es c z C) mo f es c n z C),
          .sl (some (h.length, 0)) (opq (cntA (unS f es c z C).l.length mo)) 0 false,
          h ++ [.cells (opq (itI (unS f es c z C) ((unS f es c z C).l.take (cntA (unS f es c z C).l.length mo)))) 19 .own none])
      | _, _ => none
    | _ => none
  | _ => none
theorem set_self {h : AHeap} {i : Nat} {b : ABlk} (hb : h[i]? = some b) : h.set i b = h := by
  obtain ⟨hlt, he⟩ := List.getElem?_eq_some_iff.1 hb
  rw [← he, List.set_getElem_self]
theorem sAll : SoundE Try.prog 16 (entF eAll) := frame_sound fun args h v h' hg => by
  unfold eAll at hg
  split at hg
  case h_2 => simp at hg
  rename_i a mo
  split at hg
  case h_2 => simp at hg
  rename_i f m o n z ha
  split at hg
  case h_2 => simp at hg
  rename_i es c C hm ho
  simp only [Option.some.injEq, Prod.mk.injEq] at hg
  obtain ⟨hg, rfl, rfl⟩ := hg
  rw [cdec_true] at hg
  obtain ⟨h1, h2, h3, G⟩ := hg
  obtain ⟨e1, e2, e3, e4, e5, e6, hmo, H⟩ := G
  generalize unS f es c z C = S at *
  subst e1 e2 e3 e4 e5 e6
  have e0 : h = killp h none := rfl
  obtain ⟨st, pend, hr⟩ := runAll H hmo
  refine ⟨none, [a, m, o], [7], [.ptr (some (0, 0)), .int .i64 mo], hS S, _, _, [.cells [.int .i64 S.f, .map (some m), .sl (some (o, 0)) S.l.length S.z false] 3 .own none, .mp (esG S.G) S.c true, .cells (rowD S.l S.z) 18 .own none], [.cells (itI S (S.l.take (cntA S.l.length mo))) 19 .own none], by simp [h1, h2, h3], by simp, by simp, ?_, ?_, ?_, hr, ?_, ?_, ?_, ?_⟩
  · exact .cons _ _ _ _ (.ptr _ _ _ (by simp [posOf])) (.free _ rfl)
  · refine .cons _ _ _ _ _ ha (.cells _ _ _ _ _ _ (.cons _ _ _ _ (.free _ rfl) (.cons _ _ _ _ (.map _ _ ?_) (.cons _ _ _ _ (.sl _ _ _ _ _ _ ?_) .nil))) (by simp)) (.cons _ _ _ _ _ hm (.mp _ _ _ _ _ (.free _ (gd_free H.gd))) (.cons _ _ _ _ _ ho (.row (rowD_frees _ _) (by simp)) .nil))
    · simp [posOf, h1]
    · simp [posOf, h2, h3]
  · intro i hi b hb
    rw [← e0] at hb ⊢
    simp only [List.mem_cons, List.not_mem_nil, or_false] at hi
    rcases hi with rfl | rfl | rfl
    · rw [ha] at hb; cases hb; exact ⟨rfl, by simp [ABlk.par]⟩
    · rw [hm] at hb; cases hb; exact ⟨rfl, by simp [ABlk.par]⟩
    · rw [ho] at hb; cases hb; exact ⟨rfl, by simp [ABlk.par]⟩
  · exact .cons _ _ _ _ _ rfl (.cells _ _ _ _ _ _ (.cons _ _ _ _ (.free _ rfl) (.cons _ _ _ _ (.map _ _ rfl) (.cons _ _ _ _ (.sl _ _ _ _ _ _ rfl) .nil))) (by simp)) (.cons _ _ _ _ _ rfl (.mp _ _ _ _ _ (.free _ (gd_free H.gd))) (.cons _ _ _ _ _ rfl (.row (rowD_frees _ _) (by simp)) .nil))
  · exact .cons _ _ _ _ _ rfl (.row (itI_frees _ _) (by simp)) .nil
  · rw [opq_eq]; exact .sl _ _ _ _ _ _ (by simp [backOf, posOf]; rfl)
  · rw [← e0, opq_eq]
    simp only [setAll]
    rw [set_self ha, set_self hm, set_self ho]

end Go.Proofs.Ytpghomcohejejaa.L
