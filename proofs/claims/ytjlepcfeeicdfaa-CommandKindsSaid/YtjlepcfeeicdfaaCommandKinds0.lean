/- CommandKinds' run. -/
import Derived.Test.YtjlepcfeeicdfaaCommandKindsN
import Derived.Test.YtjlepcfeeicdfaaCmL
set_option autoImplicit false
set_option maxRecDepth 100000
set_option linter.unusedVariables false
set_option linter.unusedSimpArgs false
namespace Go.Proofs.Ytjlepcfeeicdfaa.L
open Go Go.Abs

theorem sVip : SoundE Try.prog 31 (entF eVip) := by
  refine canonV_sound fun args h v h' hg => ?_
  unfold eVip at hg
  split at hg
  · rename_i q
    simp only [Option.some.injEq, Prod.mk.injEq, decide_eq_true_eq] at hg
    obtain ⟨hq, rfl, rfl⟩ := hg
    refine ⟨rfl, ?_, [.int .i64 q], [], .cons _ _ _ _ _ _ _ (.flat _ _ rfl) (.nil _), ?_⟩
    · show (AV.frees (vipL q)) = true
      rfl
    · have e : q = 0 ∨ q = 1 ∨ q = 2 ∨ q = 3 := by omega
      rcases e with rfl | rfl | rfl | rfl
      · exact Runs.valT0 (find_nil _) (F := 100) (n := 4) (pr := []) ((nfVip0 _).trans rfl)
      · exact Runs.valT0 (find_nil _) (F := 100) (n := 4) (pr := []) ((nfVip1 _).trans rfl)
      · exact Runs.valT0 (find_nil _) (F := 100) (n := 4) (pr := []) ((nfVip2 _).trans rfl)
      · exact Runs.valT0 (find_nil _) (F := 100) (n := 4) (pr := []) ((nfVip3 _).trans rfl)
  · simp at hg
theorem tVoOk (v : AV) : ∀ f E, (tVo v).find f = some E → SoundE Try.prog f E := find_cons (sSay sVip _) (find_nil _)
theorem sVof : SoundE Try.prog 19 (entF eVof) := by
  refine canonV_sound fun args h v h' hg => ?_
  unfold eVof at hg
  split at hg
  · rename_i n
    simp only [Option.some.injEq, Prod.mk.injEq, true_and] at hg
    obtain ⟨rfl, rfl⟩ := hg
    refine ⟨rfl, rfl, [.int .i64 n], [], .cons _ _ _ _ _ _ _ (.flat _ _ rfl) (.nil _), ?_⟩
    refine Runs.valT0 (tVoOk _) (F := 100) (n := 4) (pr := []) ((nfVo n (vpr (n % 4)) (vw (n % 4)) vx 80 _).trans ?_)
    rw [round_eq (k := n) (n := 4) ⟨by decide, by decide⟩]
    refine (if_pos (cdec_true.2 ⟨?_⟩)).trans rfl
    show some (decide (0 ≤ n % 4 ∧ n % 4 < 4), AV.agg (vipL (n % 4)), _) = some (true, _, _ ++ [])
    rw [decide_eq_true ⟨by omega, by omega⟩, List.append_nil]
    rfl
  · simp at hg
theorem tCKOk (v : AV) (e : Int) (Z : List UInt8) : ∀ f E, (tCK v e Z).find f = some E → SoundE Try.prog f E := find_cons (sSay sVof _) (find_cons (sEn _) (find_cons sAwake (find_nil _)))
theorem tDpOk : ∀ f E, tDp.find f = some E → SoundE Try.prog f E := find_cons sDip (find_nil _)
def dx (n : Int) (j : Nat) : Int := if j = 0 then 172 else if j = 1 then 16 else if j = 2 then 0 else if j = 3 then db3 n else 0
def dpD (w : Bool) (n : Int) : DipC := dF w (dx n) (dport n)
def mkP (w : Bool) (wt : Int) (n : Nat) : PL := (List.range n).map fun i : Nat => (dpD w i, wt)
@[simp] theorem mkP_len (w : Bool) (wt : Int) (n : Nat) : (mkP w wt n).length = n := by simp [mkP]
theorem mkP_succ (w : Bool) (wt : Int) (n : Nat) : mkP w wt (n + 1) = mkP w wt n ++ [(dpD w n, wt)] := by simp [mkP, List.range_succ]
theorem dpD_ok (w : Bool) (n : Int) : okD (dpD w n) := by
  have h1 : 0 ≤ db3 n ∧ db3 n < 256 := by unfold db3; omega
  refine ⟨?_, ?_⟩
  · show adrWf (adF w (dx n)) = true
    show adrWf (adrV w 172 16 0 (db3 n) 0 0 0 0 0 0 0 0 0 0 0 0) = true
    simp [adrV, adrWf, isByteR, h1]
  · show 0 ≤ dport n ∧ dport n < 65536
    unfold dport; omega
theorem dpD_v (w : Bool) (n : Int) : vD (dpD w n) = true := by cases w <;> rfl
theorem mkP_ok (w : Bool) (wt : Int) (n : Nat) : okP (mkP w wt n) := by
  intro m hm
  unfold mkP at hm
  obtain ⟨i, _, rfl⟩ := List.mem_map.1 hm
  exact dpD_ok w i
theorem vip_ok (q : Int) : okD (dF (vw q) vx 80) ∧ vD (dF (vw q) vx 80) = true ∧ 0 ≤ vpr q ∧ vpr q < 256 := by
  refine ⟨⟨?_, (by show (0 : Int) ≤ 80; decide), (by show (80 : Int) < 65536; decide)⟩, ?_, ?_⟩
  · cases h : vw q <;> rfl
  · cases h : vw q <;> rfl
  · unfold vpr; split <;> omega
def goodK (k : Int) (n : Nat) (wt : Int) : Prop := 1 ≤ k ∧ k ≤ 5 ∧ (k = 2 → n = 0) ∧ (3 ≤ k → n = 1) ∧ (n = 0 ∨ (0 ≤ wt ∧ wt ≤ 255 ∧ (k = 4 → wt = 0)))
theorem mayK {k : Int} {w w2 : Bool} {n : Nat} {wt : Int} {d : DipC} (hd : vD d = true) (hn : n ≤ 20) : mayM k d (mkP w wt n) ↔ goodK k n wt := by
  have hb : (mkP w wt n).any (badM k) = false ↔ (n = 0 ∨ (0 ≤ wt ∧ wt ≤ 255 ∧ (k = 4 → wt = 0))) := by
    constructor
    · intro h
      by_cases h0 : n = 0
      · exact .inl h0
      · rw [List.any_eq_false] at h
        have hm : (dpD w ((0 : Nat) : Int), wt) ∈ mkP w wt n := by unfold mkP; exact List.mem_map.2 ⟨0, by simp; omega, rfl⟩
        have hx := badM_no (k := k) (by simpa using h _ hm)
        exact .inr ⟨hx.2.1, hx.2.2.1, hx.2.2.2⟩
    · intro h
      rw [List.any_eq_false]
      intro m hm
      unfold mkP at hm
      obtain ⟨i, hi, rfl⟩ := List.mem_map.1 hm
      have hi' : i < n := by simpa using hi
      have hv : adrValid ((dpD w i).cells.take 17) = true := dpD_v w i
      rcases h with h | ⟨h1, h2, h3⟩
      · omega
      · unfold badM; rw [hv]; simp; omega
  unfold mayM preM goodK
  rw [mkP_len, hb]
  constructor
  · rintro ⟨⟨a, b, c, d, e, _⟩, f⟩; exact ⟨a, b, d, e, f⟩
  · rintro ⟨a, b, d, e, f⟩; exact ⟨⟨a, b, by omega, d, e, hd⟩, f⟩
theorem plc_len_w (w : Bool) (x : Nat → Int) (po : Int) (h : okD (dF w x po)) : (plcD (dF w x po)).length = if w = true then 19 else 7 := by
  rw [plcD_len h]; cases w <;> rfl
theorem memK_len (w : Bool) (wt : Int) (n : Nat) : (memB (mkP w wt n)).length = n * (if w = true then 20 else 8) := by
  induction n with
  | zero => simp [mkP, memB]
  | succ n ih =>
    rw [mkP_succ, memB_app, List.length_append, ih]
    have := plc_len_w w (dx n) (dport n) (dpD_ok w n)
    have e : memB [(dpD w n, wt)] = plcD (dF w (dx n) (dport n)) ++ [u8i wt] := by simp [memB, dpD]
    rw [e, List.length_append, this, Nat.succ_mul]
    cases w <;> simp
theorem encK_len {k pr : Int} {w : Bool} {x : Nat → Int} {po wt : Int} {n : Nat} (h : okD (dF w x po)) : (encL k pr (dF w x po) (mkP w wt n)).length = 2 + (if w = true then 19 else 7) + (if k = 2 then 0 else 1 + n * (if w = true then 20 else 8)) := by
  unfold encL headB
  rw [List.length_append, List.length_append, plc_len_w w x po h]
  by_cases k2 : k = 2
  · rw [if_pos k2, if_pos k2]; rfl
  · have hm := memK_len w wt n
    rw [if_neg k2, if_neg k2]
    simp only [List.length_cons, List.length_nil, hm]; omega
theorem stepCK {k wt pr : Int} {w : Bool} {x : Nat → Int} {po : Int} {n i : Nat} (hn : n ≤ 20) (hi : i < n) :
    ∃ vs1 h1, qround Try.prog tDp 100 4 [(29, .bool true)] noT CKL mCK (vCK k n wt i) (hCK k pr w x po (itP (mkP w wt i)) i) = some (.norm, vs1, h1) ∧ Gc 1 vs1 h1 (vCK k n wt ((i + 1 : Nat) : Int)) (hCK k pr w x po (itP (mkP w wt (i + 1))) (i + 1)) := by
  have e5 := wrap1 (i := i) (by omega)
  have hL : (itP (mkP w wt i)).length = i * 19 := by rw [itP_length, mkP_len]
  rw [nfCKrR]
  refine ⟨?_, ?_, ?_, ?_⟩
  rotate_left 2
  · rw [e5]
    refine (if_pos (by simp; omega)).trans ?_
    refine (if_pos ⟨by omega, rfl, by omega⟩).trans ?_
    refine (if_pos (by omega)).trans ?_
    refine (if_pos ⟨rfl, by omega, by simp, rfl, rfl⟩).trans ?_
    refine (if_pos (AV.beq_self _)).trans ?_
    rfl
  · unfold hCKrR0
    have et : List.take (i * 19) (itP (mkP w wt i)) ++ illC (dpD w i) wt = itP (mkP w wt (i + 1)) := by
      rw [List.take_of_length_le (by omega), mkP_succ, itP_append]
      simp [itP]
    rw [← et]
    exact Gc.by [0, 3] rfl (by decide) (.cons _ _ _ _ (.free _ rfl) (.cons _ _ _ _ (.free _ rfl) (.cons _ _ _ _ (.free _ rfl) (.cons _ _ _ _ (.ptr _ _ _ rfl) (.free _ rfl))))) (.cons _ _ _ _ _ rfl (.cells _ _ _ _ _ _ (ars_app (l := cmH k pr (dF w x po)) (cmH_free _ _ _) (.cons _ _ _ _ (.sl _ _ _ _ _ _ rfl) .nil)) (by simp)) (.cons _ _ _ _ _ rfl (BR.grown (by have h := itP_frees (mkP w wt (i + 1)); rw [← et] at h; exact h) rfl) .nil))
theorem keyCK {k wt pr : Int} {w : Bool} {x : Nat → Int} {po : Int} {n : Nat} (hn : n ≤ 20) {vs : List AV} {h : AHeap} (hv : vs = vCK k n wt 0) (hh : h = [.cells (cmA k pr w x po (.sl none 0 0 true)) 21 .own none]) :
    True → ∃ vs2 h2, Pre 1 vs h vs2 h2 ∧ ∃ t, GReach (roundG Try.prog (deepT Try.prog tDp 100 4) (lsT noT) CKL mCK) 1 t vs2 h2 (.exit 0) (vCK k n wt n) (hCK k pr w x po (itP (mkP w wt n)) n) := by
  intro _
  subst hv hh
  refine ⟨vCK k n wt 0, hCK k pr w x po [] 0, .void 19 _ _ (vCK k n wt 0) (hCK k pr w x po [] 0) _ _ (NRs.refl _) (.cons _ _ _ _ (.cells _ _ _ _ _ (nrs_app (.void true _ _ .nil) (cmH k pr (dF w x po)))) (.cons _ _ _ _ (.same _) .nil)) (.done _ _), ?_⟩
  exact loop_T (fun i => (vCK k n wt i, hCK k pr w x po (itP (mkP w wt i)) i)) (N := n) (by simp) (fun i hi => ⟨_, stepCK hn hi⟩) ⟨_, _, _, (nfCKrS ..).trans (if_pos (by simp)), Gc.refl⟩

theorem runCK {k vip wt : Int} {n : Nat} (hn : n ≤ 20) : ∃ h', Runs Try.prog 6 [.int .i64 k, .int .i64 vip, .int .i64 (n : Int), .int .i64 wt] [] (.bool true) h' := by
  obtain ⟨hd, hv, hr⟩ := vip_ok (vip % 4)
  have say : ∀ {h : AHeap}, Says eVof [.int .i64 vip] h (.agg (.int .u8 (vpr (vip % 4)) :: (adF (vw (vip % 4)) vx ++ [.int .u16 80]))) [] := fun {h} => ⟨by
    show some (true, AV.agg (vipL (vip % 4)), h) = _
    rw [List.append_nil]; rfl⟩
  have lp : loopsOf (bodyOf Try.prog 6) = [CKL] := by kernel_rfl
  generalize vpr (vip % 4) = pr at *
  generalize vw (vip % 4) = w at *
  generalize vx = x at *
  generalize (80 : Int) = po at *
  have hmk := mayK (k := k) (w := w) (w2 := w) (n := n) (wt := wt) hv hn
  have hP := mkP_ok w wt n
  have hPl := mkP_len w wt n
  have en : ∀ {h : AHeap} {Z : List UInt8} {e : Int}, h = hCK k pr w x po (itP (mkP w wt n)) n → encZ k pr (dF w x po) (mkP w wt n) = Z → encE k (dF w x po) (mkP w wt n) = e → EnR [.agg (cmA k pr w x po (.sl (some (1, 0)) n 0 false))] h (.tup [slB 2 Z, .int .i64 e]) [ownB Z] := by
    rintro h Z e rfl hZ he
    exact .mk (mkP w wt n) _ _ (dF w x po) _ _ (rowP_blk rfl hPl.symm) (by omega) hd hP hr Z hZ e he 2 rfl
  have ew20 : IntKind.i64.wrap ((n : Int) * 20) = (n : Int) * 20 := wrapI64 (by omega)
  have ew8 : IntKind.i64.wrap ((n : Int) * 8) = (n : Int) * 8 := wrapI64 (by omega)
  have ew22 : IntKind.i64.wrap (22 + (n : Int) * 20) = 22 + (n : Int) * 20 := wrapI64 (by omega)
  have ew10 : IntKind.i64.wrap (10 + (n : Int) * 8) = 10 + (n : Int) * 8 := wrapI64 (by omega)
  by_cases hg : goodK k n wt
  · have hm := hmk.2 hg
    generalize hZ' : encL k pr (dF w x po) (mkP w wt n) = Z
    have e1 : encZ k pr (dF w x po) (mkP w wt n) = Z := (if_pos hm).trans hZ'
    have e2 : encE k (dF w x po) (mkP w wt n) = 0 := if_pos hm
    have hZl : Z.length = 2 + (if w = true then 19 else 7) + (if k = 2 then 0 else 1 + n * (if w = true then 20 else 8)) := by rw [← hZ', encK_len hd]
    clear hZ'
    obtain ⟨a1, a2, a3, a4, a5⟩ := hg
    have hk : k = 1 ∨ k = 2 ∨ k = 3 ∨ k = 4 ∨ k = 5 := by omega
    rcases hk with rfl | rfl | rfl | rfl | rfl
    · rcases (by cases w <;> simp : w = true ∨ w = false) with hw | hw
      all_goals
        by_cases c0 : n = 0
      all_goals
        refine Runs.valT (tCKOk _ _ _) (F := 100) (n := 4) (pr := [(21, .bool false), (89, .bool false), (121, .bool true)]) (only (k := 5) lp (fixP_T tDpOk (F := 100) (n := 4) (LS := noT) (noLoops (by kernel_rfl)) (keyCK hn rfl rfl))) ((nfCK1g vip wt n pr w x po Z (itP (mkP w wt n)) True _ _ _).trans ?_)
        repeat (first | (refine (if_pos ?_).trans ?_; · first | exact hw | exact cdec_true.2 say | exact cdec_true.2 (en rfl e1 e2) | exact cdec_true.2 ⟨trivial, rfl, rfl⟩ | (rw [ew20, ew22, beq_iff_eq, hZl]; simp [hw]; done) | (rw [ew20, ew22, beq_iff_eq, hZl]; simp [hw]; omega) | (rw [ew8, ew10, beq_iff_eq, hZl]; simp [hw]; omega) | rfl | (simp; omega) | (rw [beq_iff_eq, hZl]; simp [hw]; done)) | (refine (if_neg ?_).trans ?_; · first | (simp; omega) | (show ¬ w = true; rw [hw]; decide) | (intro h; cases h; done)))
        rfl
    · rcases (by cases w <;> simp : w = true ∨ w = false) with hw | hw
      all_goals
        have c0 := hn
      all_goals
        refine Runs.valT (tCKOk _ _ _) (F := 100) (n := 4) (pr := [(21, .bool false), (89, .bool false), (121, .bool true)]) (only (k := 5) lp (fixP_T tDpOk (F := 100) (n := 4) (LS := noT) (noLoops (by kernel_rfl)) (keyCK hn rfl rfl))) ((nfCK2g vip wt n pr w x po Z (itP (mkP w wt n)) True _ _ _).trans ?_)
        repeat (first | (refine (if_pos ?_).trans ?_; · first | exact hw | exact cdec_true.2 say | exact cdec_true.2 (en rfl e1 e2) | exact cdec_true.2 ⟨trivial, rfl, rfl⟩ | (rw [ew20, ew22, beq_iff_eq, hZl]; simp [hw]; done) | (rw [ew20, ew22, beq_iff_eq, hZl]; simp [hw]; omega) | (rw [ew8, ew10, beq_iff_eq, hZl]; simp [hw]; omega) | rfl | (simp; omega) | (rw [beq_iff_eq, hZl]; simp [hw]; done)) | (refine (if_neg ?_).trans ?_; · first | (simp; omega) | (show ¬ w = true; rw [hw]; decide) | (intro h; cases h; done)))
        rfl
    · rcases (by cases w <;> simp : w = true ∨ w = false) with hw | hw
      all_goals
        have c0 := hn
      all_goals
        refine Runs.valT (tCKOk _ _ _) (F := 100) (n := 4) (pr := [(21, .bool false), (89, .bool false), (121, .bool true)]) (only (k := 5) lp (fixP_T tDpOk (F := 100) (n := 4) (LS := noT) (noLoops (by kernel_rfl)) (keyCK hn rfl rfl))) ((nfCK3g vip wt n pr w x po Z (itP (mkP w wt n)) True _ _ _).trans ?_)
        repeat (first | (refine (if_pos ?_).trans ?_; · first | exact hw | exact cdec_true.2 say | exact cdec_true.2 (en rfl e1 e2) | exact cdec_true.2 ⟨trivial, rfl, rfl⟩ | (rw [ew20, ew22, beq_iff_eq, hZl]; simp [hw]; done) | (rw [ew20, ew22, beq_iff_eq, hZl]; simp [hw]; omega) | (rw [ew8, ew10, beq_iff_eq, hZl]; simp [hw]; omega) | rfl | (simp; omega) | (rw [beq_iff_eq, hZl]; simp [hw]; done)) | (refine (if_neg ?_).trans ?_; · first | (simp; omega) | (show ¬ w = true; rw [hw]; decide) | (intro h; cases h; done)))
        rfl
    · rcases (by cases w <;> simp : w = true ∨ w = false) with hw | hw
      all_goals
        have c0 := hn
      all_goals
        refine Runs.valT (tCKOk _ _ _) (F := 100) (n := 4) (pr := [(21, .bool false), (89, .bool false), (121, .bool true)]) (only (k := 5) lp (fixP_T tDpOk (F := 100) (n := 4) (LS := noT) (noLoops (by kernel_rfl)) (keyCK hn rfl rfl))) ((nfCK4g vip wt n pr w x po Z (itP (mkP w wt n)) True _ _ _).trans ?_)
        repeat (first | (refine (if_pos ?_).trans ?_; · first | exact hw | exact cdec_true.2 say | exact cdec_true.2 (en rfl e1 e2) | exact cdec_true.2 ⟨trivial, rfl, rfl⟩ | (rw [ew20, ew22, beq_iff_eq, hZl]; simp [hw]; done) | (rw [ew20, ew22, beq_iff_eq, hZl]; simp [hw]; omega) | (rw [ew8, ew10, beq_iff_eq, hZl]; simp [hw]; omega) | rfl | (simp; omega) | (rw [beq_iff_eq, hZl]; simp [hw]; done)) | (refine (if_neg ?_).trans ?_; · first | (simp; omega) | (show ¬ w = true; rw [hw]; decide) | (intro h; cases h; done)))
        rfl
    · rcases (by cases w <;> simp : w = true ∨ w = false) with hw | hw
      all_goals
        have c0 := hn
      all_goals
        refine Runs.valT (tCKOk _ _ _) (F := 100) (n := 4) (pr := [(21, .bool false), (89, .bool false), (121, .bool true)]) (only (k := 5) lp (fixP_T tDpOk (F := 100) (n := 4) (LS := noT) (noLoops (by kernel_rfl)) (keyCK hn rfl rfl))) ((nfCK5g vip wt n pr w x po Z (itP (mkP w wt n)) True _ _ _).trans ?_)
        repeat (first | (refine (if_pos ?_).trans ?_; · first | exact hw | exact cdec_true.2 say | exact cdec_true.2 (en rfl e1 e2) | exact cdec_true.2 ⟨trivial, rfl, rfl⟩ | (rw [ew20, ew22, beq_iff_eq, hZl]; simp [hw]; done) | (rw [ew20, ew22, beq_iff_eq, hZl]; simp [hw]; omega) | (rw [ew8, ew10, beq_iff_eq, hZl]; simp [hw]; omega) | rfl | (simp; omega) | (rw [beq_iff_eq, hZl]; simp [hw]; done)) | (refine (if_neg ?_).trans ?_; · first | (simp; omega) | (show ¬ w = true; rw [hw]; decide) | (intro h; cases h; done)))
        rfl
  · have hm : ¬ mayM k (dF w x po) (mkP w wt n) := fun h => hg (hmk.1 h)
    have e1 : encZ k pr (dF w x po) (mkP w wt n) = [] := if_neg hm
    have e2 : encE k (dF w x po) (mkP w wt n) = 2 := if_neg hm
    unfold goodK at hg
    by_cases hk : 1 ≤ k ∧ k ≤ 5
    · have hk' : k = 1 ∨ k = 2 ∨ k = 3 ∨ k = 4 ∨ k = 5 := by omega
      rcases hk' with rfl | rfl | rfl | rfl | rfl
      · by_cases c2 : 0 ≤ wt
        all_goals
          by_cases c1 : n = 1
        all_goals
          refine Runs.valT (tCKOk _ _ _) (F := 100) (n := 4) (pr := [(21, .bool false), (89, .bool true)]) (only (k := 5) lp (fixP_T tDpOk (F := 100) (n := 4) (LS := noT) (noLoops (by kernel_rfl)) (keyCK hn rfl rfl))) ((nfCK1b vip wt n pr w x po [] (itP (mkP w wt n)) True _ _ _).trans ?_)
          repeat (first | (refine (if_pos ?_).trans ?_; · first | exact cdec_true.2 say | exact cdec_true.2 (en rfl e1 e2) | exact cdec_true.2 ⟨trivial, rfl, rfl⟩ | (simp; omega)) | (refine (if_neg ?_).trans ?_; · first | (simp; omega) | (show ¬ w = true; rw [hw]; decide) | (intro h; cases h; done)))
          rfl
      · by_cases c2 : 0 ≤ wt
        all_goals
          by_cases c1 : n = 1
        all_goals
          refine Runs.valT (tCKOk _ _ _) (F := 100) (n := 4) (pr := [(21, .bool false), (89, .bool true)]) (only (k := 5) lp (fixP_T tDpOk (F := 100) (n := 4) (LS := noT) (noLoops (by kernel_rfl)) (keyCK hn rfl rfl))) ((nfCK2b vip wt n pr w x po [] (itP (mkP w wt n)) True _ _ _).trans ?_)
          repeat (first | (refine (if_pos ?_).trans ?_; · first | exact cdec_true.2 say | exact cdec_true.2 (en rfl e1 e2) | exact cdec_true.2 ⟨trivial, rfl, rfl⟩ | (simp; omega)) | (refine (if_neg ?_).trans ?_; · first | (simp; omega) | (show ¬ w = true; rw [hw]; decide) | (intro h; cases h; done)))
          rfl
      · by_cases c2 : 0 ≤ wt
        all_goals
          by_cases c1 : n = 1
        all_goals
          refine Runs.valT (tCKOk _ _ _) (F := 100) (n := 4) (pr := [(21, .bool false), (89, .bool true)]) (only (k := 5) lp (fixP_T tDpOk (F := 100) (n := 4) (LS := noT) (noLoops (by kernel_rfl)) (keyCK hn rfl rfl))) ((nfCK3b vip wt n pr w x po [] (itP (mkP w wt n)) True _ _ _).trans ?_)
          repeat (first | (refine (if_pos ?_).trans ?_; · first | exact cdec_true.2 say | exact cdec_true.2 (en rfl e1 e2) | exact cdec_true.2 ⟨trivial, rfl, rfl⟩ | (simp; omega)) | (refine (if_neg ?_).trans ?_; · first | (simp; omega) | (show ¬ w = true; rw [hw]; decide) | (intro h; cases h; done)))
          rfl
      · by_cases c2 : 0 ≤ wt
        all_goals
          by_cases c1 : n = 1
        all_goals
          refine Runs.valT (tCKOk _ _ _) (F := 100) (n := 4) (pr := [(21, .bool false), (89, .bool true)]) (only (k := 5) lp (fixP_T tDpOk (F := 100) (n := 4) (LS := noT) (noLoops (by kernel_rfl)) (keyCK hn rfl rfl))) ((nfCK4b vip wt n pr w x po [] (itP (mkP w wt n)) True _ _ _).trans ?_)
          repeat (first | (refine (if_pos ?_).trans ?_; · first | exact cdec_true.2 say | exact cdec_true.2 (en rfl e1 e2) | exact cdec_true.2 ⟨trivial, rfl, rfl⟩ | (simp; omega)) | (refine (if_neg ?_).trans ?_; · first | (simp; omega) | (show ¬ w = true; rw [hw]; decide) | (intro h; cases h; done)))
          rfl
      · by_cases c2 : 0 ≤ wt
        all_goals
          by_cases c1 : n = 1
        all_goals
          refine Runs.valT (tCKOk _ _ _) (F := 100) (n := 4) (pr := [(21, .bool false), (89, .bool true)]) (only (k := 5) lp (fixP_T tDpOk (F := 100) (n := 4) (LS := noT) (noLoops (by kernel_rfl)) (keyCK hn rfl rfl))) ((nfCK5b vip wt n pr w x po [] (itP (mkP w wt n)) True _ _ _).trans ?_)
          repeat (first | (refine (if_pos ?_).trans ?_; · first | exact cdec_true.2 say | exact cdec_true.2 (en rfl e1 e2) | exact cdec_true.2 ⟨trivial, rfl, rfl⟩ | (simp; omega)) | (refine (if_neg ?_).trans ?_; · first | (simp; omega) | (show ¬ w = true; rw [hw]; decide) | (intro h; cases h; done)))
          rfl
    · refine Runs.valT (tCKOk _ _ _) (F := 100) (n := 4) (pr := [(21, .bool false), (47, .bool false), (59, .bool false), (63, .bool false), (64, .bool false), (76, .bool false)]) (only (k := 5) lp (fixP_T tDpOk (F := 100) (n := 4) (LS := noT) (noLoops (by kernel_rfl)) (keyCK hn rfl rfl))) ((nfCK0b vip wt n pr w x po [] (itP (mkP w wt n)) True _ _ k _).trans ?_)
      repeat (first | (refine (if_pos ?_).trans ?_; · first | exact cdec_true.2 say | exact cdec_true.2 (en rfl e1 e2) | exact cdec_true.2 ⟨trivial, rfl, rfl⟩ | (simp; omega)) | (refine (if_neg ?_).trans ?_; · first | (simp; omega) | (show ¬ w = true; rw [hw]; decide) | (intro h; cases h; done)))
      rfl
theorem runCommandKinds (k vip n wt : Int) (_ : -9223372036854775808 ≤ k ∧ k < 9223372036854775808) (_ : -9223372036854775808 ≤ vip ∧ vip < 9223372036854775808) (_ : -9223372036854775808 ≤ n ∧ n < 9223372036854775808) (_ : -9223372036854775808 ≤ wt ∧ wt < 9223372036854775808) :
    ∃ h', Runs Try.prog 6 [.int .i64 k, .int .i64 vip, .int .i64 n, .int .i64 wt] [] (.bool true) h' := by
  by_cases h : 0 ≤ n ∧ n ≤ 20
  · obtain ⟨m, rfl⟩ : ∃ m : Nat, n = m := ⟨n.toNat, by omega⟩
    exact runCK (by omega)
  · refine Runs.valT0 (tCKOk _ _ _) (F := 100) (n := 4) (pr := [(21, .bool true)]) ((nfCKx k vip n wt _).trans ?_)
    by_cases h1 : n < 0
    · exact if_pos (decide_eq_true h1)
    · refine (if_neg (dn h1)).trans ?_
      exact if_pos (decide_eq_true (show n > 20 by omega))


end Go.Proofs.Ytjlepcfeeicdfaa.L
