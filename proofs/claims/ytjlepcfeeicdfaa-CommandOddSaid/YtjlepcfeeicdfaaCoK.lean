/- VipOf, Servers: contracts. -/
import Derived.Test.YtjlepcfeeicdfaaCoN
import Derived.Test.YtjlepcfeeicdfaaCmL
set_option autoImplicit false
set_option maxRecDepth 100000
set_option linter.unusedVariables false
set_option linter.unusedSimpArgs false
namespace Go.Proofs.Ytjlepcfeeicdfaa.L
open Go Go.Abs

theorem sVip : SoundE Try.prog 31 (entF eVip) := by
  refine canonV_sound fun args h v h' hg => ?_
  unfold eVip at hg
  split at hg
  · rename_i q
    simp only [Option.some.injEq, Prod.mk.injEq, decide_eq_true_eq] at hg
    obtain ⟨hq, rfl, rfl⟩ := hg
    refine ⟨rfl, ?_, [.int .i64 q], [], .cons _ _ _ _ _ _ _ (.flat _ _ rfl) (.nil _), ?_⟩
    · show (AV.frees (vipL q)) = true
      rfl
    · have e : q = 0 ∨ q = 1 ∨ q = 2 ∨ q = 3 := by omega
      rcases e with rfl | rfl | rfl | rfl
      · exact Runs.valT0 (find_nil _) (F := 100) (n := 4) (pr := []) ((nfVip0 _).trans rfl)
      · exact Runs.valT0 (find_nil _) (F := 100) (n := 4) (pr := []) ((nfVip1 _).trans rfl)
      · exact Runs.valT0 (find_nil _) (F := 100) (n := 4) (pr := []) ((nfVip2 _).trans rfl)
      · exact Runs.valT0 (find_nil _) (F := 100) (n := 4) (pr := []) ((nfVip3 _).trans rfl)
  · simp at hg
theorem tVoOk (v : AV) : ∀ f E, (tVo v).find f = some E → SoundE Try.prog f E := find_cons (sSay sVip _) (find_nil _)
theorem sVof : SoundE Try.prog 19 (entF eVof) := by
  refine canonV_sound fun args h v h' hg => ?_
  unfold eVof at hg
  split at hg
  · rename_i n
    simp only [Option.some.injEq, Prod.mk.injEq, true_and] at hg
    obtain ⟨rfl, rfl⟩ := hg
    refine ⟨rfl, rfl, [.int .i64 n], [], .cons _ _ _ _ _ _ _ (.flat _ _ rfl) (.nil _), ?_⟩
    refine Runs.valT0 (tVoOk _) (F := 100) (n := 4) (pr := []) ((nfVo n (vpr (n % 4)) (vw (n % 4)) vx 80 _).trans ?_)
    rw [round_eq (k := n) (n := 4) ⟨by decide, by decide⟩]
    refine (if_pos (cdec_true.2 ⟨?_⟩)).trans rfl
    show some (decide (0 ≤ n % 4 ∧ n % 4 < 4), AV.agg (vipL (n % 4)), _) = some (true, _, _ ++ [])
    rw [decide_eq_true ⟨by omega, by omega⟩, List.append_nil]
    rfl
  · simp at hg
def dx (n : Int) (j : Nat) : Int := if j = 0 then 172 else if j = 1 then 16 else if j = 2 then 0 else if j = 3 then db3 n else 0
def dpD (w : Bool) (n : Int) : DipC := dF w (dx n) (dport n)
def mkP (w : Bool) (wt : Int) (n : Nat) : PL := (List.range n).map fun i : Nat => (dpD w i, wt)
@[simp] theorem mkP_len (w : Bool) (wt : Int) (n : Nat) : (mkP w wt n).length = n := by simp [mkP]
theorem mkP_succ (w : Bool) (wt : Int) (n : Nat) : mkP w wt (n + 1) = mkP w wt n ++ [(dpD w n, wt)] := by simp [mkP, List.range_succ]
theorem dpD_ok (w : Bool) (n : Int) : okD (dpD w n) := by
  have h1 : 0 ≤ db3 n ∧ db3 n < 256 := by unfold db3; omega
  refine ⟨?_, ?_⟩
  · show adrWf (adF w (dx n)) = true
    show adrWf (adrV w 172 16 0 (db3 n) 0 0 0 0 0 0 0 0 0 0 0 0) = true
    simp [adrV, adrWf, isByteR, h1]
  · show 0 ≤ dport n ∧ dport n < 65536
    unfold dport; omega
theorem dpD_v (w : Bool) (n : Int) : vD (dpD w n) = true := by cases w <;> rfl
theorem mkP_ok (w : Bool) (wt : Int) (n : Nat) : okP (mkP w wt n) := by
  intro m hm
  unfold mkP at hm
  obtain ⟨i, _, rfl⟩ := List.mem_map.1 hm
  exact dpD_ok w i
theorem vip_ok (q : Int) : okD (dF (vw q) vx 80) ∧ vD (dF (vw q) vx 80) = true ∧ 0 ≤ vpr q ∧ vpr q < 256 := by
  refine ⟨⟨?_, (by show (0 : Int) ≤ 80; decide), (by show (80 : Int) < 65536; decide)⟩, ?_, ?_⟩
  · cases h : vw q <;> rfl
  · cases h : vw q <;> rfl
  · unfold vpr; split <;> omega
theorem tSvOk : ∀ f E, tSv.find f = some E → SoundE Try.prog f E := find_cons sDip (find_cons sRound (find_nil _))
theorem rep_get {n i : Nat} (h : i < n) : ((List.replicate n (0 : Int)).map (AV.int .i64))[0 + (i : Int).toNat * 1]? = some (.int .i64 0) := by
  have e : 0 + (i : Int).toNat * 1 = i := by omega
  rw [e, List.getElem?_map, List.getElem?_replicate, if_pos h]; rfl
theorem stepSv {w : Bool} {n i : Nat} (hn : n ≤ 20) (hi : i < n) :
    ∃ vs1 h1, qround Try.prog tSv 100 4 [(14, .bool true)] noT SVL mSv (vSv n w i i) (hSv ((List.replicate n (0 : Int)).map (AV.int .i64)) (itP (mkP w 1 i))) = some (.norm, vs1, h1) ∧ Gc 1 vs1 h1 (vSv n w (i + 1) ((i + 1 : Nat) : Int)) (hSv ((List.replicate n (0 : Int)).map (AV.int .i64)) (itP (mkP w 1 (i + 1)))) := by
  have e5 := wrap1 (i := i) (by omega)
  have hL : (itP (mkP w 1 i)).length = i * 19 := by rw [itP_length, mkP_len]
  have hz := rep_get hi
  have e1 : IntKind.i64.wrap (1 + 0 % 16) = 1 := by decide
  rw [nfSvrR]
  refine ⟨?_, ?_, ?_, ?_⟩
  rotate_left 2
  · rw [e5, hz]
    refine (if_pos (by simp; omega)).trans ?_
    refine (if_pos (decide_eq_true (by omega))).trans ?_
    refine (if_pos (by omega)).trans ?_
    refine (if_pos rfl).trans ?_
    refine (if_pos ⟨by omega, rfl, by omega⟩).trans ?_
    refine (if_pos (by omega)).trans ?_
    refine (if_pos ⟨rfl, by omega, by simp, rfl, rfl⟩).trans ?_
    refine (if_pos rfl).trans ?_
    refine (if_pos (AV.beq_self _)).trans ?_
    rfl
  · unfold hSvrR0
    rw [hz, intV_some, e1]
    have et : List.take (i * 19) (itP (mkP w 1 i)) ++ illC (dpD w i) 1 = itP (mkP w 1 (i + 1)) := by
      rw [List.take_of_length_le (by omega), mkP_succ, itP_append]
      simp [itP]
    rw [← et]
    exact Gc.by [0, 3] rfl (by decide) (.cons _ _ _ _ (.sl _ _ _ _ _ _ rfl) (.cons _ _ _ _ (.free _ rfl) (.cons _ _ _ _ (.sl _ _ _ _ _ _ rfl) (.free _ rfl)))) (.cons _ _ _ _ _ rfl (.row (frees_ints _) (by simp)) (.cons _ _ _ _ _ rfl (BR.grown (by have h := itP_frees (mkP w 1 (i + 1)); rw [← et] at h; exact h) rfl) .nil))
theorem runSv {w : Bool} {n : Nat} (hn : n ≤ 20) : ∃ h', Runs Try.prog 20 [.sl (some (0, 0)) n 0 false, .bool w] [.cells ((List.replicate n (0 : Int)).map (AV.int .i64)) 1 .far none] (.sl (some (1, 0)) n 0 false) h' ∧ h'[1]? = some (.cells (itP (mkP w 1 n)) 19 .own none) := by
  have lp : loopsOf (bodyOf Try.prog 20) = [SVL] := by kernel_rfl
  have key : True → ∃ vs2 h2, Pre 1 [.sl (some (0, 0)) n 0 false, .bool w, .sl none 0 0 true, .int .i64 0] [.cells ((List.replicate n (0 : Int)).map (AV.int .i64)) 1 .far none] vs2 h2 ∧ ∃ t, GReach (roundG Try.prog (deepT Try.prog tSv 100 4) (lsT noT) SVL mSv) 1 t vs2 h2 (.exit 0) (vSv n w n n) (hSv ((List.replicate n (0 : Int)).map (AV.int .i64)) (itP (mkP w 1 n))) := by
    intro _
    refine ⟨_, _, Pre.nil1 19 (.same _ _ _ (.same _ _ _ (.void _ _ _ (NRs.refl _)))) rfl, ?_⟩
    exact loop_T (fun i => (vSv n w i i, hSv ((List.replicate n (0 : Int)).map (AV.int .i64)) (itP (mkP w 1 i)))) (N := n) (by simp) (fun i hi => ⟨_, stepSv hn hi⟩) ⟨_, _, _, (nfSvrS ..).trans (if_neg (by simp)), Gc.refl⟩
  exact ⟨hSv ((List.replicate n (0 : Int)).map (AV.int .i64)) (itP (mkP w 1 n)), Runs.ofT tSvOk (F := 100) (n := 4) (pr := []) (only (k := 3) lp (fixP_T tSvOk (F := 100) (n := 4) (LS := noT) (noLoops (by kernel_rfl)) key)) ((nfSv _ _ n n w n True _ _).trans (if_pos (cdec_true.2 ⟨trivial, rfl, rfl⟩))), rfl⟩
inductive SvR : List AV → AHeap → AV → AHeap → Prop
  | mk (n : Nat) (w : Bool) (h : AHeap) (a : AV) (g : rowI h a (List.replicate n 0)) (hn : n ≤ 20) (j : Nat) (hj : h.length = j) : SvR [a, .bool w] h (.sl (some (j, 0)) n 0 false) [.cells (itP (mkP w 1 n)) 19 .own none]
theorem sSv (L : List (Nat × AV × AHeap)) : SoundE Try.prog 20 (entF (eRel SvR L)) := by
  refine relR_sound (fun args h v new hR => ?_) L
  cases hR with
  | mk n w _ a g hn j hj =>
  subst hj
  obtain ⟨h1, h2, h3⟩ := runSv (w := w) hn
  have hc := rowI_canon g 0
  rw [List.length_replicate] at hc
  exact ⟨_, _, .cons _ _ _ _ _ _ [] hc (.cons _ _ _ _ _ [] [] (.flat _ _ rfl) (.nil _)), _, h1, h2, [some 1], denRowN (by simp) h3 (by omega) (by rw [itP_length, mkP_len]) (itP_frees _), ksOk1 _⟩

end Go.Proofs.Ytjlepcfeeicdfaa.L
