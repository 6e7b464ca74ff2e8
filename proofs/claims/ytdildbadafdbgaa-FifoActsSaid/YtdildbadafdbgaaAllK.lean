/- bazaarlaw20's all: its contract. -/
import Derived.Test.YtdildbadafdbgaaAllN
set_option autoImplicit false
set_option maxRecDepth 100000
set_option linter.unusedVariables false
set_option linter.unusedSimpArgs false
namespace Go.Proofs.Ytdildbadafdbgaa.L
open Go Go.Abs

abbrev flS (P : List (List UInt8 × Int)) : List AV := fl (AV.str) (AV.int .i64) P
theorem frS (P : List (List UInt8 × Int)) : AV.frees (flS P) = true := fl_frees (fun _ => rfl) (fun _ => rfl) P
def itC (P : List (List UInt8 × Int)) : List AV := P.flatMap fun p => [.str p.1, .int .i64 p.2, .int .i64 0]
@[simp] theorem itC_length (P : List (List UInt8 × Int)) : (itC P).length = P.length * 3 := by
  induction P with
  | nil => rfl
  | cons p P ih => simp only [itC, List.flatMap_cons, List.length_append, List.length_cons, List.length_nil] at ih ⊢; omega
theorem itC_frees : ∀ P : List (List UInt8 × Int), AV.frees (itC P) = true
  | [] => rfl
  | p :: P => by
    show AV.frees ([.str p.1, .int .i64 p.2, .int .i64 0] ++ itC P) = true
    exact frees_append rfl (itC_frees P)
theorem itC_snoc (P : List (List UInt8 × Int)) (p : List UInt8 × Int) : itC (P ++ [p]) = itC P ++ [.str p.1, .int .i64 p.2, .int .i64 0] := by simp [itC]
theorem take_snoc {α : Type} {P : List α} {i : Nat} (h : i < P.length) : P.take (i + 1) = P.take i ++ [P[i]] := by
  rw [List.take_add_one, List.getElem?_eq_getElem h]; rfl
theorem keep7 {k : Nat} (i : Nat) (hi : i < 6) : posOf [0, 1, 2, 3, 4, 5, k] i = some i := by
  rcases (by omega : i = 0 ∨ i = 1 ∨ i = 2 ∨ i = 3 ∨ i = 4 ∨ i = 5) with rfl | rfl | rfl | rfl | rfl | rfl <;> rfl

variable {a b m : Int} {P : List (List UInt8 × Int)}
noncomputable def stAl (a b m : Int) (P : List (List UInt8 × Int)) (i : Nat) : List AV × AHeap := (vAl P.length i, hAl a b m P.length (flS P) i (itC (P.take i)) .ready none)
theorem alAt {i : Nat} (h : i < P.length) : List.take 2 (List.drop (0 + (i : Int).toNat * 2) (flS P)) = [AV.str P[i].1, AV.int .i64 P[i].2] := by
  rw [show 0 + (i : Int).toNat * 2 = i * 2 by omega]; exact fl_at h
theorem stepAl {i : Nat} (hl : P.length ≤ 1000000) (hi : i < P.length) (hm : m ≠ i) :
    ∃ vs1 h1, qround Try.prog [] 100 4 [(13, .bool true), (22, .bool false)] noT AL mAl (stAl a b m P i).1 (stAl a b m P i).2 = some (.norm, vs1, h1) ∧ Gc 6 vs1 h1 (stAl a b m P (i + 1)).1 (stAl a b m P (i + 1)).2 := by
  have ea := alAt hi
  have e5 : IntKind.i64.wrap ((i : Int) + 1) = ((i + 1 : Nat) : Int) := by rw [wrapI64 (by omega)]; omega
  have lI : (itC (P.take i)).length = i * 3 := by rw [itC_length, List.length_take]; omega
  have tI : List.take (i * 3) (itC (P.take i)) = itC (P.take i) := List.take_of_length_le (by omega)
  have hm' : ¬ ((i : Int) = m) := fun h => hm h.symm
  unfold stAl
  rw [nfAlc]
  refine ⟨?_, ?_, ?_, ?_⟩
  rotate_left 2
  · simp only [ea, e5]
    iterate 7 (refine (if_pos (by first | omega | (simp; done) | (simp [isIntV, isBoolV, isStrV, putCells, capOf]; done) | (simp; omega) | (simp [capOf]; omega))).trans ?_)
    refine (if_neg (by simp only [intV, beq_iff_eq]; exact hm')).trans ?_
    iterate 3 (refine (if_pos (by first | omega | (simp; done) | (simp [isIntV, isBoolV, isStrV, putCells, capOf]; done) | (simp; omega) | (simp [capOf]; omega))).trans ?_)
    rfl
  · have hc : List.take (i * 3) (itC (P.take i)) ++ [AV.str P[i].1, AV.int .i64 P[i].2, AV.int .i64 0] = itC (P.take (i + 1)) := by rw [tI, take_snoc hi, itC_snoc]
    have hf := itC_frees (P.take (i + 1))
    rw [← hc] at hf ⊢
    unfold hAlc0
    rw [ea]
    exact Gc.by [0, 1, 2, 3, 4, 5, 9] rfl (by decide) (ARs.same keep7 rfl) (.cons _ _ _ _ _ rfl (BR.keep keep7 rfl) (.cons _ _ _ _ _ rfl (.row (frS P) (by simp)) (.cons _ _ _ _ _ rfl (.row rfl (by simp)) (.cons _ _ _ _ _ rfl (.cells _ _ _ _ _ _ (.cons _ _ _ _ (.sl _ _ _ _ _ _ rfl) .nil) (by simp)) (.cons _ _ _ _ _ rfl (BR.keep keep7 rfl) (.cons _ _ _ _ _ rfl (BR.lpSame keep7 rfl) (.cons _ _ _ _ _ rfl (BR.grown hf rfl) .nil)))))))
theorem brkAl {i : Nat} (hl : P.length ≤ 1000000) (hi : i < P.length) :
    qround Try.prog [] 100 4 [(13, .bool true), (22, .bool true)] noT AL mAl (vAl P.length i) (hAl a b i P.length (flS P) i (itC (P.take i)) .ready none) = some (.ret, vAl P.length i, hAl a b i P.length (flS P) i (itC (P.take i)) .done (some (.exit 0)) ++ [.cells [AV.str P[i].1, AV.int .i64 P[i].2] 2 .own none]) := by
  have ea := alAt hi
  rw [nfAlb]
  unfold hAlb0
  simp only [ea]
  iterate 7 (refine (if_pos (by first | omega | (simp; done) | (simp [isIntV, isBoolV, isStrV, putCells, capOf]; done) | (simp; omega) | (simp [capOf]; omega))).trans ?_)
  refine (if_pos (by simp [intV])).trans ?_
  rfl
theorem preAl : Pre 6 (vAl P.length 0) (hAl0 a b m P.length (flS P)) (stAl a b m P 0).1 (stAl a b m P 0).2 :=
  .void 3 _ _ _ _ _ _ (NRs.refl _) (.cons _ _ _ _ (.same _) (.cons _ _ _ _ (.same _) (.cons _ _ _ _ (.same _) (.cons _ _ _ _ (.cells _ _ _ _ _ (.void _ _ _ .nil)) (.cons _ _ _ _ (.same _) (.cons _ _ _ _ (.same _) (.cons _ _ _ _ (.same _) .nil))))))) (.done _ _)
theorem lpAL : loopsOf (bodyOf Try.prog 41) = [AL] := by kernel_rfl
def cntA (n : Nat) (m : Int) : Nat := if m < 0 then n else min m.toNat n
theorem runAll (hl : P.length ≤ 1000000) (hm : -1 ≤ m) : ∃ h', Runs Try.prog 25 [.ptr (some (0, 0)), .int .i64 m] (hQ a b P.length (flS P)) (.sl (some (6, 0)) (cntA P.length m) 0 false) h' ∧ h'[6]? = some (.cells (itC (P.take (cntA P.length m))) 3 .own none) := by
  by_cases hb : 0 ≤ m ∧ m.toNat < P.length
  · obtain ⟨c, rfl⟩ := Int.eq_ofNat_of_zero_le hb.1
    have hc : cntA P.length c = c := by unfold cntA; rw [if_neg (by omega)]; omega
    rw [hc]
    have hcl : c < P.length := by omega
    have key : ∃ vs2 h2, Pre 6 (vAl P.length 0) (hAl0 a b c P.length (flS P)) vs2 h2 ∧ ∃ k, GReach (roundG Try.prog (deepT Try.prog [] 100 4) (lsT noT) AL mAl) 6 k vs2 h2 .ret (vAl P.length c) (hAl a b c P.length (flS P) c (itC (P.take c)) .done (some (.exit 0))) := by
      refine ⟨_, _, preAl, loop_T (stAl a b c P) (N := c) (by simp) (fun i hi => ⟨_, stepAl hl (by omega) (by omega)⟩) ⟨_, _, _, brkAl hl hcl, ?_⟩⟩
      exact Gc.by [0, 1, 2, 3, 4, 5, 6] rfl (by decide) (ARs.same keep7 rfl) (.cons _ _ _ _ _ rfl (BR.keep keep7 rfl) (.cons _ _ _ _ _ rfl (.row (frS P) (by simp)) (.cons _ _ _ _ _ rfl (.row rfl (by simp)) (.cons _ _ _ _ _ rfl (.cells _ _ _ _ _ _ (.cons _ _ _ _ (.sl _ _ _ _ _ _ rfl) .nil) (by simp)) (.cons _ _ _ _ _ rfl (BR.keep keep7 rfl) (.cons _ _ _ _ _ rfl (BR.lpSame keep7 rfl) (.cons _ _ _ _ _ rfl (.row (itC_frees _) (by simp)) .nil)))))))
    have R : Runs Try.prog 41 [.fn (.yield 5) [], .ptr (some (4, 0))] (hAl0 a b c P.length (flS P)) (.tup []) (hAl a b c P.length (flS P) c (itC (P.take c)) .done (some (.exit 0))) :=
      Runs.ofT (find_nil _) (F := 100) (n := 4) (pr := []) (only (k := 2) lpAL (fixLP_T (find_nil _) (F := 100) (n := 4) (LS := noT) (noLoops (by kernel_rfl)) key)) ((nfAlNb a b c c P.length c _ _ _).trans (if_pos (cdec_true.2 ⟨rfl, rfl⟩)))
    exact ⟨_, Runs.ofT0 (find_cons (fixE_sound R) (find_nil _)) (F := 100) (n := 4) (pr := []) ((nfAlMb a b c P.length c _ _ _).trans (if_pos (cdec_true.2 ⟨rfl, rfl⟩))), rfl⟩
  · have hc : cntA P.length m = P.length := by unfold cntA; split <;> omega
    rw [hc]
    have key : ∃ vs2 h2, Pre 6 (vAl P.length 0) (hAl0 a b m P.length (flS P)) vs2 h2 ∧ ∃ k, GReach (roundG Try.prog (deepT Try.prog [] 100 4) (lsT noT) AL mAl) 6 k vs2 h2 (.exit 0) (vAl P.length P.length) (hAl a b m P.length (flS P) P.length (itC (P.take P.length)) .ready none) :=
      ⟨_, _, preAl, loop_T (stAl a b m P) (N := P.length) (by simp) (fun i hi => ⟨_, stepAl hl (by omega) (by omega)⟩) ⟨_, _, _, (nfAls a b m P.length P.length P.length _ _).trans (if_pos (by simp)), Gc.refl⟩⟩
    have R : Runs Try.prog 41 [.fn (.yield 5) [], .ptr (some (4, 0))] (hAl0 a b m P.length (flS P)) (.tup []) (hAl a b m P.length (flS P) P.length (itC (P.take P.length)) .ready none) :=
      Runs.ofT (find_nil _) (F := 100) (n := 4) (pr := []) (only (k := 2) lpAL (fixLP_T (find_nil _) (F := 100) (n := 4) (LS := noT) (noLoops (by kernel_rfl)) key)) ((nfAlNe a b m P.length P.length P.length _ _ _).trans (if_pos (cdec_true.2 ⟨rfl, rfl⟩)))
    exact ⟨_, Runs.ofT0 (find_cons (fixE_sound R) (find_nil _)) (F := 100) (n := 4) (pr := []) ((nfAlMe a b m P.length P.length _ _ _).trans (if_pos (cdec_true.2 ⟨rfl, rfl⟩))), rfl⟩

inductive AllR : List AV → AHeap → AV → AHeap → Prop
  | mk (P : List (List UInt8 × Int)) (m a b : Int) (h : AHeap) (q : Nat) (s : AV) (md : Md) (e : Nat) (par : Option Nat) (k : Nat) (gq : h[q]? = some (.cells [.int .i64 a, .int .i64 b, s] e md par)) (he : e = 3) (gs : rowOk h s 2 = true) (gr : rowOf h s = flS P) (hl : P.length ≤ 1000000) (hm : -1 ≤ m) (c : Nat) (hc : cntA P.length m = c) (hk : h.length = k) (I : List AV) (hI : itC (P.take c) = I) :
      AllR [.ptr (some (q, 0)), .int .i64 m] h (.sl (some (k, 0)) c 0 false) [.cells I 3 .own none]
theorem kAll : ∀ args h v new, AllR args h v new → ∃ args1 h1, Canons h 0 args args1 h1 ∧ ∃ v1 h1', Runs Try.prog 25 args1 h1 v1 h1' ∧ ∃ ks, Den h1' h1.length h.length ks v1 v new ∧ KsOk ks := by
  intro args h v new hR
  cases hR with
  | mk P m a b _ q s md e par k gq he gs gr hl hm c hc hk I hI =>
  subst hk hc hI he
  have hn : nOf s = P.length := by
    have := rowLen gs
    rw [gr, fl_length] at this; omega
  have ca := rowCanon gs gr (frS P) 1
  rw [hn] at ca
  obtain ⟨h1, h2, h3⟩ := runAll (a := a) (b := b) (m := m) hl hm
  refine ⟨_, _, .cons _ _ _ _ _ _ _ (.ptr _ _ _ _ _ _ _ _ _ gq (by simp) (.cons _ _ _ _ _ _ _ (.flat _ _ rfl) (.cons _ _ _ _ _ _ _ (.flat _ _ rfl) (.cons _ _ _ _ _ _ _ ca (.nil _))))) (.cons _ _ _ _ _ _ _ (.flat _ _ rfl) (.nil _)), _, h1, h2, [some 6], ?_, ksOk1 _⟩
  have hlen : (itC (P.take (cntA P.length m))).length = cntA P.length m * 3 := by
    rw [itC_length, List.length_take]; congr 1; unfold cntA; split <;> omega
  exact denRowN (by simp) h3 (by decide) hlen (itC_frees _)
end Go.Proofs.Ytdildbadafdbgaa.L
