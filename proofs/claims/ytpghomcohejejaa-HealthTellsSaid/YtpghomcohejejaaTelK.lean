/- Health.Tell: what it does. -/
import Derived.Test.YtpghomcohejejaaTelP
import Derived.Test.YtpghomcohejejaaMapL
set_option autoImplicit false
set_option maxRecDepth 100000
set_option linter.unusedVariables false
set_option linter.unusedSimpArgs false
namespace Go.Proofs.Ytpghomcohejejaa.L
open Go Go.Abs

theorem lookOk {x : Option AV} {v : Int} (h : x = some (.int .i64 v)) : x = some (.int .i64 (opq (intV x))) ∧ opq (intV x) = v := by
  subst h; rw [opq_eq]; exact ⟨rfl, rfl⟩
structure EntOk (X : Option (AV × AHeap)) (h : AHeap) (G : GM) (k : AV) (c : Nat) : Prop where
  ok : X = some (.tup [.int .i64 (opq (intV (tup0 (X.map Prod.fst)))), .int .i64 (opq (intV (tup1 (X.map Prod.fst))))], h.set 1 (.mp (opq (esOf 1 (X.map Prod.snd))) (opq (ckOf 1 (X.map Prod.snd))) false))
  es : opq (esOf 1 (X.map Prod.snd)) = esG (setG G k (valG G k) c)
  ck : opq (ckOf 1 (X.map Prod.snd)) = clkG G k c
  id : opq (intV (tup1 (X.map Prod.fst))) = (idG G k c : Int)
theorem mt57 : mapTypes Try.prog 57 = some (37, 3) := by kernel_rfl
theorem z3 : zeroA Try.prog 3 = some (.int .i64 0) := by kernel_rfl
theorem entOk {h : AHeap} {c : Nat} {s : Bool} {k : AV} {G : GM} (hr : h[1]? = some (.mp (esG G) c s)) (hk : KeyOk Try.prog 37 k G) : EntOk (amapEntry0 Try.prog h 57 (.map (some 1)) k) h G k c := by
  have e := enter_G (P := Try.prog) hr hk mt57 z3
  have hlt := (List.getElem?_eq_some_iff.1 hr).1
  have g : (h.set 1 (.mp (esG (setG G k (valG G k) c)) (clkG G k c) false))[1]? = some (.mp (esG (setG G k (valG G k) c)) (clkG G k c) false) := by simp [hlt]
  have e1 : esOf 1 ((amapEntry0 Try.prog h 57 (.map (some 1)) k).map Prod.snd) = esG (setG G k (valG G k) c) := by rw [e]; simp only [Option.map_some, esOf, g]
  have e2 : ckOf 1 ((amapEntry0 Try.prog h 57 (.map (some 1)) k).map Prod.snd) = clkG G k c := by rw [e]; simp only [Option.map_some, ckOf, g]
  refine ⟨?_, by rw [opq_eq, e1], by rw [opq_eq, e2], by rw [opq_eq, e]; rfl⟩
  rw [opq_eq, opq_eq, opq_eq, opq_eq, e1, e2, e]
  rfl
structure StoOk (X : Option AHeap) (h : AHeap) (G : GM) (c : Nat) : Prop where
  ok : X = some (h.set 1 (.mp (opq (esOf 1 X)) (opq (ckOf 1 X)) false))
  es : opq (esOf 1 X) = esG G
  ck : opq (ckOf 1 X) = c
theorem StoOk.blk {X : Option AHeap} {h : AHeap} {G : GM} {c : Nat} (D : StoOk X h G c) (s : Bool) : some (ABlk.mp (opq (esOf 1 X)) (opq (ckOf 1 X)) s) = some (.mp (esG G) c s) := by rw [D.es, D.ck]
theorem EntOk.blk {X : Option (AV × AHeap)} {h : AHeap} {G : GM} {k : AV} {c : Nat} (D : EntOk X h G k c) (s : Bool) : some (ABlk.mp (opq (esOf 1 (X.map Prod.snd))) (opq (ckOf 1 (X.map Prod.snd))) s) = some (.mp (esG (setG G k (valG G k) c)) (clkG G k c) s) := by rw [D.es, D.ck]
theorem setOk {h : AHeap} {X : Option AHeap} {b : ABlk} {c : Nat} {G : GM} (hr : h[1]? = some b) (hx : X = some (h.set 1 (.mp (esG G) c false))) : StoOk X h G c := by
  have hlt := (List.getElem?_eq_some_iff.1 hr).1
  have g : (h.set 1 (.mp (esG G) c false))[1]? = some (.mp (esG G) c false) := by simp [hlt]
  have e1 : esOf 1 X = esG G := by rw [hx]; simp only [esOf, g]
  have e2 : ckOf 1 X = c := by rw [hx]; simp only [ckOf, g]
  exact ⟨by rw [opq_eq, opq_eq, e1, e2]; exact hx, by rw [opq_eq, e1], by rw [opq_eq, e2]⟩
theorem stoOk {h : AHeap} {c : Nat} {s : Bool} {k : AV} {G : GM} {v w : Int} {c0 : Nat} (hr : h[1]? = some (.mp (esG (setG G k v c0)) c s)) (hp : (setG G k v c0).Pairwise fun a b => a.2.2 ≠ b.2.2) :
    StoOk (aentryStore0 h (.map (some 1)) (.int .i64 (idG G k c0)) (.int .i64 w)) h (setG G k w c0) c := by
  obtain ⟨j, hj, hs⟩ := setG_at (G := G) (k := k) (v := v) (c := c0)
  have := store_G (w := w) hr hp hj
  rw [hs w] at this
  exact setOk hr this
theorem delOk {h : AHeap} {c : Nat} {s : Bool} {k : AV} {G : GM} (hr : h[1]? = some (.mp (esG G) c s)) (hk : KeyOk Try.prog 37 k G) : StoOk (adelete0 Try.prog h 57 (.map (some 1)) k) h (delG G k) c :=
  setOk hr (del_G hr hk mt57)


structure HS where
  f : Int
  G : GM
  c : Nat
  l : List DipC
  z : Nat
abbrev _root_.Go.Abs.DipC.key (d : DipC) : AV := .agg d.cells
def _root_.Go.Abs.DipC.ok (d : DipC) : Bool := adrValid (d.cells.take 17)
def cntS (S : HS) (d : DipC) : Int := valG S.G d.key
noncomputable def telS (S : HS) (d : DipC) (w : Bool) : HS :=
  if d.ok = false then S else
  if w = true then ⟨S.f, delG S.G d.key, S.c, delD S.l d, delZ S.l d S.z⟩ else
  if cntS S d = 0 then ⟨S.f, setG S.G d.key 1 S.c, clkG S.G d.key S.c, S.l ++ [d], S.z - 1⟩ else ⟨S.f, setG S.G d.key (cntS S d + 1) S.c, clkG S.G d.key S.c, S.l, S.z⟩
noncomputable def telD (S : HS) (d : DipC) (w : Bool) : Bool := d.ok && !w && decide (cntS S d + 1 = S.f)
def telE (d : DipC) : Int := if d.ok = true then 0 else 1
noncomputable def hS (S : HS) : AHeap := hTel S.f (esG S.G) S.c S.l.length S.z (rowD S.l S.z)
noncomputable def hT (S : HS) : AHeap := [.cells [.int .i64 S.f, .map (some 1), .sl (some (3, 0)) S.l.length S.z false] 3 .own none, .mp (esG S.G) S.c true, .dead, .cells (rowD S.l S.z) 18 .own none]
structure HOk (B : Nat) (S : HS) : Prop where
  gd : GDip S.G
  ga : GApart S.G S.c
  nd : S.l.Nodup
  len : S.l.length ≤ B
  cnt : ∀ d, 0 ≤ cntS S d ∧ cntS S d ≤ (B : Int)
  mem : ∀ d, d ∈ S.l ↔ cntS S d ≠ 0

theorem reT {S : HS} {v : AV} {h : AHeap} {k : Nat} {b2 : ABlk} {s : Bool} {par : Option Nat} (hk : 2 ≤ k) (hf : v.free = true) (hd : GDip S.G) (h0 : h[0]? = some (.cells [.int .i64 S.f, .map (some 1), .sl (some (k, 0)) S.l.length S.z false] 3 .own none))
    (h1 : h[1]? = some (.mp (esG S.G) S.c s)) (h2 : h[2]? = some b2) (h3 : h[k]? = some (.cells (rowD S.l S.z) 18 .own par)) (hp : ∀ p, par = some p → p = 2 ∧ k ≠ 2) : Re 3 v h v (hT S) := by
  refine .gc [0, 1, 2, k] (fun i => if i = 0 then some 0 else if i = 1 then some 1 else if i = k then some 3 else none) _ _ _ _ _ _ ?_ ?_ ?_ (.free _ hf) (.done _ _)
  · intro j hj
    match j, hj with
    | 0, _ => rfl
    | 1, _ => rfl
    | 2, _ => rfl
  · refine .cons _ _ _ _ _ h0 (.cells _ _ _ _ _ _ (.cons _ _ _ _ (.free _ rfl) (.cons _ _ _ _ (.map _ _ rfl) (.cons _ _ _ _ (.sl _ _ _ _ _ _ ?_) .nil))) (by simp)) (.cons _ _ _ _ _ h1 (.mp _ _ _ _ _ (.free _ ?_)) (.cons _ _ _ _ _ h2 (.dead _) (.cons _ _ _ _ _ h3 (.row (rowD_frees _ _) ?_) .nil)))
    · rw [if_neg (by omega), if_neg (by omega), if_pos rfl]
    · intro e he
      unfold esG at he
      obtain ⟨g, hg, rfl⟩ := List.mem_map.1 he
      obtain ⟨d, hd⟩ := hd g hg
      refine ⟨?_, rfl⟩
      show g.1.free = true
      rw [hd]; exact d.cells_frees
    · intro p j hpar
      obtain ⟨rfl, hk2⟩ := hp p hpar
      rw [if_neg (by omega), if_neg (by omega), if_neg (by omega)]
      simp
  · constructor
    · intro i j
      show (if i = 0 then some 0 else if i = 1 then some 1 else if i = k then some 3 else none) = some j → _
      split
      · rename_i e; subst e; intro h; cases h; rfl
      · split
        · rename_i e; subst e; intro h; cases h; rfl
        · split
          · rename_i e; subst e; intro h; cases h; rfl
          · intro h; cases h
    · intro j i b hj hb
      match j, hj with
      | 0, hj => right; cases hj; rfl
      | 1, hj => right; cases hj; rfl
      | 2, _ => left; cases hb; rfl
      | 3, hj => right; cases hj; rw [if_neg (by omega), if_neg (by omega), if_pos rfl]

theorem runTelI {S : HS} (H : HOk 99999 S) {d : DipC} (w : Bool) (hd : d.ok = false) : Runs Try.prog 11 [.ptr (some (0, 0)), .agg d.cells, .bool w] (hS S) (.tup [.bool (telD S d w), .int .i64 (telE d)]) (hT (telS S d w)) := by
  have e1 : telS S d w = S := by unfold telS; rw [if_pos hd]
  have e2 : telD S d w = false := by unfold telD; rw [hd]; rfl
  have e3 : telE d = 1 := by unfold telE; rw [hd]; rfl
  rw [e1, e2, e3]
  refine Runs.re (v := .tup [.bool false, .int .i64 1]) (h' := hTelI0 w S.f (esG S.G) S.c S.l.length S.z (rowD S.l S.z) d.cells) (Runs.ofT0 tTelOk (F := 100) (n := 4) (pr := [(15, .bool true)]) ?_) (reT (k := 2) (par := none) (by omega) rfl H.gd rfl rfl rfl rfl (by simp))
  refine (nfTelI w _ _ _ _ _ _ _ _).trans ?_
  refine (if_pos (by simp)).trans ?_
  refine (if_pos (cdec_true.2 (.mk d _ rfl))).trans ?_
  exact if_pos (by rw [opq_eq]; show (!d.ok) = true; rw [hd]; rfl)

theorem runTelW {S : HS} (H : HOk 99999 S) {d : DipC} (hd : d.ok = true) : Runs Try.prog 11 [.ptr (some (0, 0)), .agg d.cells, .bool true] (hS S) (.tup [.bool (telD S d true), .int .i64 (telE d)]) (hT (telS S d true)) := by
  have e1 : telS S d true = ⟨S.f, delG S.G d.key, S.c, delD S.l d, delZ S.l d S.z⟩ := by unfold telS; rw [if_neg (by rw [hd]; simp), if_pos rfl]
  have e2 : telD S d true = false := by unfold telD; simp
  have e3 : telE d = 0 := by unfold telE; rw [hd]; rfl
  have t18 : List.take 18 d.cells = d.cells := take18 d
  have D := delOk (h := hTelW0 S.f (esG S.G) S.c S.l.length S.z (rowD S.l S.z) d.cells) (k := d.key) (G := S.G) rfl (dipKey H.gd d)
  rw [e1, e2, e3]
  refine Runs.re (v := .tup [.bool false, .int .i64 0]) (h' := hTelW2 S.f (esG S.G) S.c S.l.length S.z (rowD S.l S.z) d.cells) (Runs.ofT0 tTelOk (F := 100) (n := 4) (pr := [(15, .bool false)]) ?_) ?_
  · refine (nfTelW _ _ _ _ _ _ _ _).trans ?_
    refine (if_pos (by simp)).trans ?_
    refine (if_pos (cdec_true.2 (.mk d _ rfl))).trans ?_
    refine (if_pos (by rw [opq_eq]; show (!d.ok) = false; rw [hd]; rfl)).trans ?_
    refine (if_pos (by simp)).trans ?_
    refine (if_pos (cdec_true.2 (by unfold hTelW1; rw [t18]; exact D.ok))).trans ?_
    refine (if_pos (cdec_true.2 ⟨rfl, by decide, rfl, by rw [dipsOf_eq, dipOf_eq]; exact ⟨rfl, rfl, rfl, by have := H.len; omega, H.nd, rfl⟩⟩)).trans ?_
    rfl
  · refine reT (k := 2) (par := none) (s := true) (by omega) rfl ?_ ?_ ?_ rfl ?_ (by simp)
    · intro g hg
      simp only [delG] at hg
      split at hg
      · exact H.gd g (List.mem_of_mem_eraseIdx hg)
      · exact H.gd g hg
    · unfold hTelW2; simp only [opq_eq, dipsOf_eq, dipOf_eq, List.getElem?_cons_zero]
    · unfold hTelW2; rw [t18]; exact D.blk true
    · unfold hTelW2; simp only [opq_eq, dipsOf_eq, dipOf_eq, List.getElem?_cons_zero, List.getElem?_cons_succ]


theorem gd_set {G : GM} {c : Nat} {v : Int} (h : GDip G) (d : DipC) : GDip (setG G d.key v c) := setG_all (Q := fun k => ∃ d : DipC, k = .agg d.cells) h ⟨d, rfl⟩
theorem runTelO {S : HS} (H : HOk 99999 S) {d : DipC} (hd : d.ok = true) (hc : cntS S d ≠ 0) : Runs Try.prog 11 [.ptr (some (0, 0)), .agg d.cells, .bool false] (hS S) (.tup [.bool (telD S d false), .int .i64 (telE d)]) (hT (telS S d false)) := by
  have e1 : telS S d false = ⟨S.f, setG S.G d.key (cntS S d + 1) S.c, clkG S.G d.key S.c, S.l, S.z⟩ := by unfold telS; rw [if_neg (by rw [hd]; simp), if_neg (by simp), if_neg hc]
  have e2 : telD S d false = (cntS S d + 1 == S.f) := by unfold telD; rw [hd]; rfl
  have e3 : telE d = 0 := by unfold telE; rw [hd]; rfl
  have t18 : List.take 18 d.cells = d.cells := take18 d
  have ky := dipKey H.gd d
  have hcnt := (H.cnt d).2
  have hw : IntKind.i64.wrap (valG S.G d.key + 1) = valG S.G d.key + 1 := by
    have := (H.cnt d).1; unfold cntS at this hcnt; exact wrapI64 (by omega)
  have A0 := lookOk (look_G (P := Try.prog) (r := 1) (h := hTelO0 S.f (esG S.G) S.c S.l.length S.z (rowD S.l S.z) d.cells) (k := d.key) (G := S.G) (c := S.c) (s := true) rfl ky mt57 z3)
  have E := entOk (h := hTelO0 S.f (esG S.G) S.c S.l.length S.z (rowD S.l S.z) d.cells) (k := d.key) (G := S.G) (c := S.c) (s := true) rfl ky
  have g2 : (hTelO2 S.f (esG S.G) S.c S.l.length S.z (rowD S.l S.z) d.cells)[1]? = some (.mp (esG (setG S.G d.key (valG S.G d.key) S.c)) (clkG S.G d.key S.c) true) := by
    unfold hTelO2; rw [t18]; exact E.blk true
  have A2 := lookOk (look_G (P := Try.prog) (k := d.key) g2 (dipKey (gd_set H.gd d) d) mt57 z3)
  rw [valG_set, if_pos rfl] at A2
  have St := stoOk (w := valG S.G d.key + 1) g2 H.ga.set.ids
  have g4 : (hTelO4 S.f (esG S.G) S.c S.l.length S.z (rowD S.l S.z) d.cells)[1]? = some (.mp (esG (setG S.G d.key (valG S.G d.key + 1) S.c)) (clkG S.G d.key S.c) true) := by
    unfold hTelO4
    rw [t18, show opq (intV (tup1 (Option.map Prod.fst (amapEntry0 Try.prog (hTelO0 S.f (esG S.G) S.c S.l.length S.z (rowD S.l S.z) d.cells) 57 (AV.map (some 1)) (AV.agg d.cells))))) = _ from E.id, show opq (intV (alookup0 Try.prog (hTelO0 S.f (esG S.G) S.c S.l.length S.z (rowD S.l S.z) d.cells) 57 (AV.map (some 1)) (AV.agg d.cells) false)) = _ from A0.2, hw]
    exact St.blk true
  have A4 := lookOk (look_G (P := Try.prog) (k := d.key) g4 (dipKey (gd_set H.gd d) d) mt57 z3)
  rw [valG_set, if_pos rfl] at A4
  rw [e1, e2, e3]
  refine Runs.re (v := .tup [.bool (cntS S d + 1 == S.f), .int .i64 0]) (h' := hTelO4 S.f (esG S.G) S.c S.l.length S.z (rowD S.l S.z) d.cells) (Runs.ofT0 tTelOk (F := 100) (n := 4) (pr := [(15, .bool false), (37, .bool false)]) ?_) ?_
  · refine (nfTelO _ _ _ _ _ _ _ _).trans ?_
    rw [t18]
    refine (if_pos (by simp)).trans ?_
    refine (if_pos (cdec_true.2 (.mk d _ rfl))).trans ?_
    refine (if_pos (by rw [opq_eq]; show (!d.ok) = false; rw [hd]; rfl)).trans ?_
    refine (if_pos (by simp)).trans ?_
    refine (if_pos (cdec_true.2 A0.1)).trans ?_
    refine (if_pos (by rw [show opq (intV _) = _ from A0.2]; exact beq_eq_false_iff_ne.2 hc)).trans ?_
    refine (if_pos (by simp)).trans ?_
    refine (if_pos (cdec_true.2 A0.1)).trans ?_
    refine (if_pos (cdec_true.2 (by unfold hTelO1; rw [t18]; exact E.ok))).trans ?_
    rw [show opq (intV (tup1 (Option.map Prod.fst (amapEntry0 Try.prog (hTelO0 S.f (esG S.G) S.c S.l.length S.z (rowD S.l S.z) d.cells) 57 (AV.map (some 1)) (AV.agg d.cells))))) = _ from E.id, show opq (intV (alookup0 Try.prog (hTelO0 S.f (esG S.G) S.c S.l.length S.z (rowD S.l S.z) d.cells) 57 (AV.map (some 1)) (AV.agg d.cells) false)) = _ from A0.2, hw]
    refine (if_pos (cdec_true.2 (by
      unfold hTelO3
      rw [t18, show opq (intV (tup1 (Option.map Prod.fst (amapEntry0 Try.prog (hTelO0 S.f (esG S.G) S.c S.l.length S.z (rowD S.l S.z) d.cells) 57 (AV.map (some 1)) (AV.agg d.cells))))) = _ from E.id, show opq (intV (alookup0 Try.prog (hTelO0 S.f (esG S.G) S.c S.l.length S.z (rowD S.l S.z) d.cells) 57 (AV.map (some 1)) (AV.agg d.cells) false)) = _ from A0.2, hw]
      exact St.ok))).trans ?_
    refine (if_pos (cdec_true.2 A2.1)).trans ?_
    refine (if_pos (by rw [show opq (intV (alookup0 Try.prog (hTelO2 S.f (esG S.G) S.c S.l.length S.z (rowD S.l S.z) d.cells) 57 (AV.map (some 1)) (AV.agg d.cells) false)) = _ from A2.2]; exact AV.beq_self _)).trans ?_
    refine (if_pos (by simp)).trans ?_
    refine (if_pos (cdec_true.2 A4.1)).trans ?_
    rw [show opq (intV (alookup0 Try.prog (hTelO4 S.f (esG S.G) S.c S.l.length S.z (rowD S.l S.z) d.cells) 57 (AV.map (some 1)) (AV.agg d.cells) false)) = _ from A4.2]
    rfl
  · exact reT (S := ⟨S.f, setG S.G d.key (cntS S d + 1) S.c, clkG S.G d.key S.c, S.l, S.z⟩) (k := 2) (par := none) (s := true) (by omega) rfl (gd_set H.gd d) rfl g4 rfl rfl (by simp)
theorem rowD_snoc0 (l : List DipC) (d : DipC) : (rowD l 0).take (l.length * 18) ++ d.cells = rowD (l ++ [d]) 0 := by
  rw [rowD_take]; unfold rowD; rw [dipsC_append]; simp [dipsC, zrep]
theorem rowD_push (l : List DipC) (d : DipC) (z : Nat) : putCells (rowD l (z + 1)) (l.length * 18) d.cells = rowD (l ++ [d]) z := by
  have e : rowD l (z + 1) = dipsC l ++ (dipZ ++ zrep z dipZ) := by unfold rowD; rw [zrep_succ]
  rw [e, putCells_at _ _ _ (by simp [zrep_length, dipZ]), List.take_left' (dipsC_length l)]
  have e2 : List.drop (l.length * 18 + d.cells.length) (dipsC l ++ (dipZ ++ zrep z dipZ)) = zrep z dipZ := by
    rw [← List.append_assoc]; exact List.drop_left' (by simp [dipZ])
  rw [e2]; unfold rowD; rw [dipsC_append]; simp [dipsC]
theorem dip_all (d : DipC) : d.cells.all AV.isCell = true := cells_isCell d
theorem runTelN {S : HS} (H : HOk 99999 S) (hz : S.z = 0) {d : DipC} (hd : d.ok = true) (hc : cntS S d = 0) : Runs Try.prog 11 [.ptr (some (0, 0)), .agg d.cells, .bool false] (hS S) (.tup [.bool (telD S d false), .int .i64 (telE d)]) (hT (telS S d false)) := by
  have e1 : telS S d false = ⟨S.f, setG S.G d.key 1 S.c, clkG S.G d.key S.c, S.l ++ [d], 0⟩ := by
    unfold telS; rw [if_neg (by rw [hd]; simp), if_neg (by simp), if_pos hc, hz] <;> rfl
  have e2 : telD S d false = (1 == S.f) := by unfold telD; rw [hd, hc]; rfl
  have e3 : telE d = 0 := by unfold telE; rw [hd]; rfl
  obtain ⟨v, b0, b1, b2, b3, b4, b5, b6, b7, b8, b9, b10, b11, b12, b13, b14, b15, p, hD⟩ : ∃ v b0 b1 b2 b3 b4 b5 b6 b7 b8 b9 b10 b11 b12 b13 b14 b15 p, d.cells = dipV v b0 b1 b2 b3 b4 b5 b6 b7 b8 b9 b10 b11 b12 b13 b14 b15 p := by
    obtain ⟨v, a, p, ha⟩ := d
    obtain ⟨b0, b1, b2, b3, b4, b5, b6, b7, b8, b9, b10, b11, b12, b13, b14, b15, rfl⟩ := sixteen ha
    exact ⟨_, _, _, _, _, _, _, _, _, _, _, _, _, _, _, _, _, _, rfl⟩
  have ky : KeyOk Try.prog 37 (AV.agg (dipV v b0 b1 b2 b3 b4 b5 b6 b7 b8 b9 b10 b11 b12 b13 b14 b15 p)) S.G := by have := dipKey H.gd d; rwa [hD] at this
  have gs : ∀ v', GDip (setG S.G (AV.agg (dipV v b0 b1 b2 b3 b4 b5 b6 b7 b8 b9 b10 b11 b12 b13 b14 b15 p)) v' S.c) := fun v' => by have := gd_set (v := v') (c := S.c) H.gd d; unfold DipC.key at this; rwa [hD] at this
  have hc' : valG S.G (AV.agg (dipV v b0 b1 b2 b3 b4 b5 b6 b7 b8 b9 b10 b11 b12 b13 b14 b15 p)) = 0 := by unfold cntS DipC.key at hc; rwa [hD] at hc
  have hok : (!opq (adrValid (adrW v b0 b1 b2 b3 b4 b5 b6 b7 b8 b9 b10 b11 b12 b13 b14 b15))) = false := by
    rw [opq_eq]
    have : d.ok = adrValid (adrW v b0 b1 b2 b3 b4 b5 b6 b7 b8 b9 b10 b11 b12 b13 b14 b15) := by unfold DipC.ok; rw [hD]; rfl
    rw [← this, hd]; rfl
  have hia : IsAdr (adrW v b0 b1 b2 b3 b4 b5 b6 b7 b8 b9 b10 b11 b12 b13 b14 b15) := .mk d _ (by rw [hD]; rfl)
  have hw : IntKind.i64.wrap (valG S.G (AV.agg (dipV v b0 b1 b2 b3 b4 b5 b6 b7 b8 b9 b10 b11 b12 b13 b14 b15 p)) + 1) = 1 := by rw [hc']; decide
  have A0 := lookOk (look_G (P := Try.prog) (r := 1) (h := (hTelN0 S.f (esG S.G) S.c S.l.length (rowD S.l 0) v b0 b1 b2 b3 b4 b5 b6 b7 b8 b9 b10 b11 b12 b13 b14 b15 p)) (k := (AV.agg (dipV v b0 b1 b2 b3 b4 b5 b6 b7 b8 b9 b10 b11 b12 b13 b14 b15 p))) (G := S.G) (c := S.c) (s := true) rfl ky mt57 z3)
  have A1 := lookOk (look_G (P := Try.prog) (r := 1) (h := (hTelN1 S.f (esG S.G) S.c S.l.length (rowD S.l 0) v b0 b1 b2 b3 b4 b5 b6 b7 b8 b9 b10 b11 b12 b13 b14 b15 p)) (k := (AV.agg (dipV v b0 b1 b2 b3 b4 b5 b6 b7 b8 b9 b10 b11 b12 b13 b14 b15 p))) (G := S.G) (c := S.c) (s := true) rfl ky mt57 z3)
  have E := entOk (h := (hTelN1 S.f (esG S.G) S.c S.l.length (rowD S.l 0) v b0 b1 b2 b3 b4 b5 b6 b7 b8 b9 b10 b11 b12 b13 b14 b15 p)) (k := (AV.agg (dipV v b0 b1 b2 b3 b4 b5 b6 b7 b8 b9 b10 b11 b12 b13 b14 b15 p))) (G := S.G) (c := S.c) (s := true) rfl ky
  have g3 : (hTelN3 S.f (esG S.G) S.c S.l.length (rowD S.l 0) v b0 b1 b2 b3 b4 b5 b6 b7 b8 b9 b10 b11 b12 b13 b14 b15 p)[1]? = some (.mp (esG (setG S.G (AV.agg (dipV v b0 b1 b2 b3 b4 b5 b6 b7 b8 b9 b10 b11 b12 b13 b14 b15 p)) (valG S.G (AV.agg (dipV v b0 b1 b2 b3 b4 b5 b6 b7 b8 b9 b10 b11 b12 b13 b14 b15 p))) S.c)) (clkG S.G (AV.agg (dipV v b0 b1 b2 b3 b4 b5 b6 b7 b8 b9 b10 b11 b12 b13 b14 b15 p)) S.c) true) := by
    unfold hTelN3; exact E.blk true
  have A3 := lookOk (look_G (P := Try.prog) (k := (AV.agg (dipV v b0 b1 b2 b3 b4 b5 b6 b7 b8 b9 b10 b11 b12 b13 b14 b15 p))) g3 (by have := dipKey (gs (valG S.G (AV.agg (dipV v b0 b1 b2 b3 b4 b5 b6 b7 b8 b9 b10 b11 b12 b13 b14 b15 p)))) d; rwa [hD] at this) mt57 z3)
  rw [valG_set, if_pos rfl] at A3
  have St := stoOk (w := 1) g3 H.ga.set.ids
  have g5 : (hTelN5 S.f (esG S.G) S.c S.l.length (rowD S.l 0) v b0 b1 b2 b3 b4 b5 b6 b7 b8 b9 b10 b11 b12 b13 b14 b15 p)[1]? = some (.mp (esG (setG S.G (AV.agg (dipV v b0 b1 b2 b3 b4 b5 b6 b7 b8 b9 b10 b11 b12 b13 b14 b15 p)) 1 S.c)) (clkG S.G (AV.agg (dipV v b0 b1 b2 b3 b4 b5 b6 b7 b8 b9 b10 b11 b12 b13 b14 b15 p)) S.c) true) := by
    unfold hTelN5
    rw [show opq (intV (tup1 (Option.map Prod.fst (amapEntry0 Try.prog (hTelN1 S.f (esG S.G) S.c S.l.length (rowD S.l 0) v b0 b1 b2 b3 b4 b5 b6 b7 b8 b9 b10 b11 b12 b13 b14 b15 p) 57 (AV.map (some 1)) (AV.agg (dipV v b0 b1 b2 b3 b4 b5 b6 b7 b8 b9 b10 b11 b12 b13 b14 b15 p)))))) = _ from E.id, show opq (intV (alookup0 Try.prog (hTelN1 S.f (esG S.G) S.c S.l.length (rowD S.l 0) v b0 b1 b2 b3 b4 b5 b6 b7 b8 b9 b10 b11 b12 b13 b14 b15 p) 57 (AV.map (some 1)) (AV.agg (dipV v b0 b1 b2 b3 b4 b5 b6 b7 b8 b9 b10 b11 b12 b13 b14 b15 p)) false)) = _ from A1.2, hw]
    exact St.blk true
  have A5 := lookOk (look_G (P := Try.prog) (k := (AV.agg (dipV v b0 b1 b2 b3 b4 b5 b6 b7 b8 b9 b10 b11 b12 b13 b14 b15 p))) g5 (by have := dipKey (gs 1) d; rwa [hD] at this) mt57 z3)
  rw [valG_set, if_pos rfl] at A5
  rw [e1, e2, e3]
  refine Runs.re (v := .tup [.bool (1 == S.f), .int .i64 0]) (h' := (hTelN5 S.f (esG S.G) S.c S.l.length (rowD S.l 0) v b0 b1 b2 b3 b4 b5 b6 b7 b8 b9 b10 b11 b12 b13 b14 b15 p)) (Runs.ofT0 tTelOk (F := 100) (n := 4) (pr := [(15, .bool false), (37, .bool true)]) ?_) ?_
  · rw [show hS S = hTel S.f (esG S.G) S.c S.l.length 0 (rowD S.l 0) by unfold hS; rw [hz], hD]
    refine (nfTelN S.f _ _ _ _ v b0 b1 b2 b3 b4 b5 b6 b7 b8 b9 b10 b11 b12 b13 b14 b15 p _).trans ?_
    refine (if_pos (cdec_true.2 hia)).trans ?_
    refine (if_pos hok).trans ?_
    refine (if_pos (cdec_true.2 A0.1)).trans ?_
    refine (if_pos (by rw [A0.2, hc']; rfl)).trans ?_
    have hl := H.len
    refine (if_pos ⟨by omega, rfl, by omega⟩).trans ?_
    refine (if_pos (by rw [rowD_length]; omega)).trans ?_
    refine (if_pos ⟨rfl, by rw [rowD_length]; omega, .inl (by decide), rfl, hD ▸ dip_all d⟩).trans ?_
    refine (if_pos (cdec_true.2 A1.1)).trans ?_
    refine (if_pos (cdec_true.2 (by unfold hTelN2; exact E.ok))).trans ?_
    rw [show opq (intV (tup1 (Option.map Prod.fst (amapEntry0 Try.prog (hTelN1 S.f (esG S.G) S.c S.l.length (rowD S.l 0) v b0 b1 b2 b3 b4 b5 b6 b7 b8 b9 b10 b11 b12 b13 b14 b15 p) 57 (AV.map (some 1)) (AV.agg (dipV v b0 b1 b2 b3 b4 b5 b6 b7 b8 b9 b10 b11 b12 b13 b14 b15 p)))))) = _ from E.id, show opq (intV (alookup0 Try.prog (hTelN1 S.f (esG S.G) S.c S.l.length (rowD S.l 0) v b0 b1 b2 b3 b4 b5 b6 b7 b8 b9 b10 b11 b12 b13 b14 b15 p) 57 (AV.map (some 1)) (AV.agg (dipV v b0 b1 b2 b3 b4 b5 b6 b7 b8 b9 b10 b11 b12 b13 b14 b15 p)) false)) = _ from A1.2, hw]
    refine (if_pos (cdec_true.2 (by
      unfold hTelN4
      rw [show opq (intV (tup1 (Option.map Prod.fst (amapEntry0 Try.prog (hTelN1 S.f (esG S.G) S.c S.l.length (rowD S.l 0) v b0 b1 b2 b3 b4 b5 b6 b7 b8 b9 b10 b11 b12 b13 b14 b15 p) 57 (AV.map (some 1)) (AV.agg (dipV v b0 b1 b2 b3 b4 b5 b6 b7 b8 b9 b10 b11 b12 b13 b14 b15 p)))))) = _ from E.id, show opq (intV (alookup0 Try.prog (hTelN1 S.f (esG S.G) S.c S.l.length (rowD S.l 0) v b0 b1 b2 b3 b4 b5 b6 b7 b8 b9 b10 b11 b12 b13 b14 b15 p) 57 (AV.map (some 1)) (AV.agg (dipV v b0 b1 b2 b3 b4 b5 b6 b7 b8 b9 b10 b11 b12 b13 b14 b15 p)) false)) = _ from A1.2, hw]
      exact St.ok))).trans ?_
    refine (if_pos (cdec_true.2 A3.1)).trans ?_
    refine (if_pos (by rw [A3.2]; exact AV.beq_self _)).trans ?_
    refine (if_pos (cdec_true.2 A5.1)).trans ?_
    rw [A5.2]
    rfl
  · refine reT (S := ⟨S.f, setG S.G d.key 1 S.c, clkG S.G d.key S.c, S.l ++ [d], 0⟩) (k := 5) (par := some 2) (s := true) (by omega) rfl (gd_set H.gd d) ?_ ?_ rfl ?_ (by simp)
    · unfold hTelN5; simp
    · unfold DipC.key; rw [hD]; exact g5
    · unfold hTelN5
      have := rowD_snoc0 S.l d
      rw [hD] at this
      show some (ABlk.cells _ _ _ _) = _
      rw [this]

theorem runTelR {S : HS} {z : Nat} (H : HOk 99999 S) (hz : S.z = (z + 1)) {d : DipC} (hd : d.ok = true) (hc : cntS S d = 0) : Runs Try.prog 11 [.ptr (some (0, 0)), .agg d.cells, .bool false] (hS S) (.tup [.bool (telD S d false), .int .i64 (telE d)]) (hT (telS S d false)) := by
  have e1 : telS S d false = ⟨S.f, setG S.G d.key 1 S.c, clkG S.G d.key S.c, S.l ++ [d], z⟩ := by
    unfold telS; rw [if_neg (by rw [hd]; simp), if_neg (by simp), if_pos hc, hz] <;> rfl
  have e2 : telD S d false = (1 == S.f) := by unfold telD; rw [hd, hc]; rfl
  have e3 : telE d = 0 := by unfold telE; rw [hd]; rfl
  obtain ⟨v, b0, b1, b2, b3, b4, b5, b6, b7, b8, b9, b10, b11, b12, b13, b14, b15, p, hD⟩ : ∃ v b0 b1 b2 b3 b4 b5 b6 b7 b8 b9 b10 b11 b12 b13 b14 b15 p, d.cells = dipV v b0 b1 b2 b3 b4 b5 b6 b7 b8 b9 b10 b11 b12 b13 b14 b15 p := by
    obtain ⟨v, a, p, ha⟩ := d
    obtain ⟨b0, b1, b2, b3, b4, b5, b6, b7, b8, b9, b10, b11, b12, b13, b14, b15, rfl⟩ := sixteen ha
    exact ⟨_, _, _, _, _, _, _, _, _, _, _, _, _, _, _, _, _, _, rfl⟩
  have ky : KeyOk Try.prog 37 (AV.agg (dipV v b0 b1 b2 b3 b4 b5 b6 b7 b8 b9 b10 b11 b12 b13 b14 b15 p)) S.G := by have := dipKey H.gd d; rwa [hD] at this
  have gs : ∀ v', GDip (setG S.G (AV.agg (dipV v b0 b1 b2 b3 b4 b5 b6 b7 b8 b9 b10 b11 b12 b13 b14 b15 p)) v' S.c) := fun v' => by have := gd_set (v := v') (c := S.c) H.gd d; unfold DipC.key at this; rwa [hD] at this
  have hc' : valG S.G (AV.agg (dipV v b0 b1 b2 b3 b4 b5 b6 b7 b8 b9 b10 b11 b12 b13 b14 b15 p)) = 0 := by unfold cntS DipC.key at hc; rwa [hD] at hc
  have hok : (!opq (adrValid (adrW v b0 b1 b2 b3 b4 b5 b6 b7 b8 b9 b10 b11 b12 b13 b14 b15))) = false := by
    rw [opq_eq]
    have : d.ok = adrValid (adrW v b0 b1 b2 b3 b4 b5 b6 b7 b8 b9 b10 b11 b12 b13 b14 b15) := by unfold DipC.ok; rw [hD]; rfl
    rw [← this, hd]; rfl
  have hia : IsAdr (adrW v b0 b1 b2 b3 b4 b5 b6 b7 b8 b9 b10 b11 b12 b13 b14 b15) := .mk d _ (by rw [hD]; rfl)
  have hw : IntKind.i64.wrap (valG S.G (AV.agg (dipV v b0 b1 b2 b3 b4 b5 b6 b7 b8 b9 b10 b11 b12 b13 b14 b15 p)) + 1) = 1 := by rw [hc']; decide
  have A0 := lookOk (look_G (P := Try.prog) (r := 1) (h := (hTelR0 S.f (esG S.G) S.c S.l.length z (rowD S.l (z + 1)) v b0 b1 b2 b3 b4 b5 b6 b7 b8 b9 b10 b11 b12 b13 b14 b15 p)) (k := (AV.agg (dipV v b0 b1 b2 b3 b4 b5 b6 b7 b8 b9 b10 b11 b12 b13 b14 b15 p))) (G := S.G) (c := S.c) (s := true) rfl ky mt57 z3)
  have A1 := lookOk (look_G (P := Try.prog) (r := 1) (h := (hTelR1 S.f (esG S.G) S.c S.l.length z (rowD S.l (z + 1)) v b0 b1 b2 b3 b4 b5 b6 b7 b8 b9 b10 b11 b12 b13 b14 b15 p)) (k := (AV.agg (dipV v b0 b1 b2 b3 b4 b5 b6 b7 b8 b9 b10 b11 b12 b13 b14 b15 p))) (G := S.G) (c := S.c) (s := true) rfl ky mt57 z3)
  have E := entOk (h := (hTelR1 S.f (esG S.G) S.c S.l.length z (rowD S.l (z + 1)) v b0 b1 b2 b3 b4 b5 b6 b7 b8 b9 b10 b11 b12 b13 b14 b15 p)) (k := (AV.agg (dipV v b0 b1 b2 b3 b4 b5 b6 b7 b8 b9 b10 b11 b12 b13 b14 b15 p))) (G := S.G) (c := S.c) (s := true) rfl ky
  have g3 : (hTelR3 S.f (esG S.G) S.c S.l.length z (rowD S.l (z + 1)) v b0 b1 b2 b3 b4 b5 b6 b7 b8 b9 b10 b11 b12 b13 b14 b15 p)[1]? = some (.mp (esG (setG S.G (AV.agg (dipV v b0 b1 b2 b3 b4 b5 b6 b7 b8 b9 b10 b11 b12 b13 b14 b15 p)) (valG S.G (AV.agg (dipV v b0 b1 b2 b3 b4 b5 b6 b7 b8 b9 b10 b11 b12 b13 b14 b15 p))) S.c)) (clkG S.G (AV.agg (dipV v b0 b1 b2 b3 b4 b5 b6 b7 b8 b9 b10 b11 b12 b13 b14 b15 p)) S.c) true) := by
    unfold hTelR3; exact E.blk true
  have A3 := lookOk (look_G (P := Try.prog) (k := (AV.agg (dipV v b0 b1 b2 b3 b4 b5 b6 b7 b8 b9 b10 b11 b12 b13 b14 b15 p))) g3 (by have := dipKey (gs (valG S.G (AV.agg (dipV v b0 b1 b2 b3 b4 b5 b6 b7 b8 b9 b10 b11 b12 b13 b14 b15 p)))) d; rwa [hD] at this) mt57 z3)
  rw [valG_set, if_pos rfl] at A3
  have St := stoOk (w := 1) g3 H.ga.set.ids
  have g5 : (hTelR5 S.f (esG S.G) S.c S.l.length z (rowD S.l (z + 1)) v b0 b1 b2 b3 b4 b5 b6 b7 b8 b9 b10 b11 b12 b13 b14 b15 p)[1]? = some (.mp (esG (setG S.G (AV.agg (dipV v b0 b1 b2 b3 b4 b5 b6 b7 b8 b9 b10 b11 b12 b13 b14 b15 p)) 1 S.c)) (clkG S.G (AV.agg (dipV v b0 b1 b2 b3 b4 b5 b6 b7 b8 b9 b10 b11 b12 b13 b14 b15 p)) S.c) true) := by
    unfold hTelR5
    rw [show opq (intV (tup1 (Option.map Prod.fst (amapEntry0 Try.prog (hTelR1 S.f (esG S.G) S.c S.l.length z (rowD S.l (z + 1)) v b0 b1 b2 b3 b4 b5 b6 b7 b8 b9 b10 b11 b12 b13 b14 b15 p) 57 (AV.map (some 1)) (AV.agg (dipV v b0 b1 b2 b3 b4 b5 b6 b7 b8 b9 b10 b11 b12 b13 b14 b15 p)))))) = _ from E.id, show opq (intV (alookup0 Try.prog (hTelR1 S.f (esG S.G) S.c S.l.length z (rowD S.l (z + 1)) v b0 b1 b2 b3 b4 b5 b6 b7 b8 b9 b10 b11 b12 b13 b14 b15 p) 57 (AV.map (some 1)) (AV.agg (dipV v b0 b1 b2 b3 b4 b5 b6 b7 b8 b9 b10 b11 b12 b13 b14 b15 p)) false)) = _ from A1.2, hw]
    exact St.blk true
  have A5 := lookOk (look_G (P := Try.prog) (k := (AV.agg (dipV v b0 b1 b2 b3 b4 b5 b6 b7 b8 b9 b10 b11 b12 b13 b14 b15 p))) g5 (by have := dipKey (gs 1) d; rwa [hD] at this) mt57 z3)
  rw [valG_set, if_pos rfl] at A5
  rw [e1, e2, e3]
  refine Runs.re (v := .tup [.bool (1 == S.f), .int .i64 0]) (h' := (hTelR5 S.f (esG S.G) S.c S.l.length z (rowD S.l (z + 1)) v b0 b1 b2 b3 b4 b5 b6 b7 b8 b9 b10 b11 b12 b13 b14 b15 p)) (Runs.ofT0 tTelOk (F := 100) (n := 4) (pr := [(15, .bool false), (37, .bool true)]) ?_) ?_
  · rw [show hS S = hTel S.f (esG S.G) S.c S.l.length (z + 1) (rowD S.l (z + 1)) by unfold hS; rw [hz], hD]
    refine (nfTelR S.f _ _ _ _ _ v b0 b1 b2 b3 b4 b5 b6 b7 b8 b9 b10 b11 b12 b13 b14 b15 p _).trans ?_
    refine (if_pos (cdec_true.2 hia)).trans ?_
    refine (if_pos hok).trans ?_
    refine (if_pos (cdec_true.2 A0.1)).trans ?_
    refine (if_pos (by rw [A0.2, hc']; rfl)).trans ?_
    have hl := H.len
    refine (if_pos ⟨by omega, rfl, by omega⟩).trans ?_
    refine (if_pos ⟨by rw [← hD, rowD_length]; simp; omega, hD ▸ dip_all d⟩).trans ?_
    refine (if_pos (cdec_true.2 A1.1)).trans ?_
    refine (if_pos (cdec_true.2 (by unfold hTelR2; exact E.ok))).trans ?_
    rw [show opq (intV (tup1 (Option.map Prod.fst (amapEntry0 Try.prog (hTelR1 S.f (esG S.G) S.c S.l.length z (rowD S.l (z + 1)) v b0 b1 b2 b3 b4 b5 b6 b7 b8 b9 b10 b11 b12 b13 b14 b15 p) 57 (AV.map (some 1)) (AV.agg (dipV v b0 b1 b2 b3 b4 b5 b6 b7 b8 b9 b10 b11 b12 b13 b14 b15 p)))))) = _ from E.id, show opq (intV (alookup0 Try.prog (hTelR1 S.f (esG S.G) S.c S.l.length z (rowD S.l (z + 1)) v b0 b1 b2 b3 b4 b5 b6 b7 b8 b9 b10 b11 b12 b13 b14 b15 p) 57 (AV.map (some 1)) (AV.agg (dipV v b0 b1 b2 b3 b4 b5 b6 b7 b8 b9 b10 b11 b12 b13 b14 b15 p)) false)) = _ from A1.2, hw]
    refine (if_pos (cdec_true.2 (by
      unfold hTelR4
      rw [show opq (intV (tup1 (Option.map Prod.fst (amapEntry0 Try.prog (hTelR1 S.f (esG S.G) S.c S.l.length z (rowD S.l (z + 1)) v b0 b1 b2 b3 b4 b5 b6 b7 b8 b9 b10 b11 b12 b13 b14 b15 p) 57 (AV.map (some 1)) (AV.agg (dipV v b0 b1 b2 b3 b4 b5 b6 b7 b8 b9 b10 b11 b12 b13 b14 b15 p)))))) = _ from E.id, show opq (intV (alookup0 Try.prog (hTelR1 S.f (esG S.G) S.c S.l.length z (rowD S.l (z + 1)) v b0 b1 b2 b3 b4 b5 b6 b7 b8 b9 b10 b11 b12 b13 b14 b15 p) 57 (AV.map (some 1)) (AV.agg (dipV v b0 b1 b2 b3 b4 b5 b6 b7 b8 b9 b10 b11 b12 b13 b14 b15 p)) false)) = _ from A1.2, hw]
      exact St.ok))).trans ?_
    refine (if_pos (cdec_true.2 A3.1)).trans ?_
    refine (if_pos (by rw [A3.2]; exact AV.beq_self _)).trans ?_
    refine (if_pos (cdec_true.2 A5.1)).trans ?_
    rw [A5.2]
    rfl
  · refine reT (S := ⟨S.f, setG S.G d.key 1 S.c, clkG S.G d.key S.c, S.l ++ [d], z⟩) (k := 2) (par := none) (s := true) (by omega) rfl (gd_set H.gd d) ?_ ?_ rfl ?_ (by simp)
    · unfold hTelR5; simp
    · unfold DipC.key; rw [hD]; exact g5
    · unfold hTelR5
      have := rowD_push S.l d z
      rw [hD] at this
      show some (ABlk.cells _ _ _ _) = _
      rw [show 0 + S.l.length * 18 = S.l.length * 18 by omega, this]

theorem runTel {S : HS} (H : HOk 99999 S) (d : DipC) (w : Bool) : Runs Try.prog 11 [.ptr (some (0, 0)), .agg d.cells, .bool w] (hS S) (.tup [.bool (telD S d w), .int .i64 (telE d)]) (hT (telS S d w)) := by
  cases hd : d.ok
  · exact runTelI H w hd
  cases w
  · by_cases hc : cntS S d = 0
    · cases hz : S.z with
      | zero => exact runTelN H hz hd hc
      | succ z => exact runTelR H hz hd hc
    · exact runTelO H hd hc
  · exact runTelW H hd

theorem telS_f (S : HS) (d : DipC) (w : Bool) : (telS S d w).f = S.f := by
  unfold telS
  split
  · rfl
  · split
    · rfl
    · split <;> rfl
def unG (es : List (AV × AV × Nat)) : GM := es.map fun e => (e.1, (match e.2.1 with | .int _ n => n | _ => 0), e.2.2)
theorem unG_esG (G : GM) : unG (esG G) = G := by
  unfold unG esG
  rw [List.map_map]
  exact List.map_id' G
noncomputable def unS (f : Int) (es : List (AV × AV × Nat)) (c z : Nat) (C : List AV) : HS := ⟨f, unG es, c, dipsOf z C, z⟩
theorem unS_eq (S : HS) : unS S.f (esG S.G) S.c S.z (rowD S.l S.z) = S := by
  unfold unS; rw [unG_esG, dipsOf_eq]
structure TelOk (S : HS) (d : DipC) (f : Int) (es : List (AV × AV × Nat)) (c n z : Nat) (C : List AV) (D : List AV) : Prop where
  hes : es = esG S.G
  hf : f = S.f
  hc : c = S.c
  hn : n = S.l.length
  hz : z = S.z
  hC : C = rowD S.l S.z
  hD : D = d.cells
  ok : HOk 99999 S
theorem telOk {S : HS} {d : DipC} (H : HOk 99999 S) : TelOk (unS S.f (esG S.G) S.c S.z (rowD S.l S.z)) (dipOf d.cells) S.f (esG S.G) S.c S.l.length S.z (rowD S.l S.z) d.cells := by
  rw [unS_eq, dipOf_eq]; exact ⟨rfl, rfl, rfl, rfl, rfl, rfl, rfl, H⟩
noncomputable def eTel : GEnt := fun args h => match args with
  | [.ptr (some (a, 0)), .agg D, .bool w] => match h[a]? with
    | some (.cells [.int .i64 f, .map (some m), .sl (some (o, 0)) n z false] 3 .own none) => match h[m]?, h[o]? with
      | some (.mp es c true), some (.cells C 18 .own none) =>
        some (cdec (a ≠ m ∧ a ≠ o ∧ m ≠ o ∧ TelOk (unS f es c z C) (dipOf D) f es c n z C D),
          .tup [.bool (opq (telD (unS f es c z C) (dipOf D) w)), .int .i64 (opq (telE (dipOf D)))],
          (((h.set a (.cells [.int .i64 f, .map (some m), .sl (some (h.length, 0)) (opq (telS (unS f es c z C) (dipOf D) w).l.length) (opq (telS (unS f es c z C) (dipOf D) w).z) false] 3 .own none)).set m
            (.mp (opq (esG (telS (unS f es c z C) (dipOf D) w).G)) (opq (telS (unS f es c z C) (dipOf D) w).c) true)).set o .dead) ++ [.cells (opq (rowD (telS (unS f es c z C) (dipOf D) w).l (telS (unS f es c z C) (dipOf D) w).z)) 18 .own none])
      | _, _ => none
    | _ => none
  | _ => none
theorem telS_gd {B : Nat} {S : HS} (H : HOk B S) (d : DipC) (w : Bool) : GDip (telS S d w).G := by
  unfold telS
  split
  · exact H.gd
  · split
    · intro g hg; exact H.gd g (delG_sub.subset hg)
    · split
      · exact gd_set H.gd d
      · exact gd_set H.gd d
theorem gd_free {G : GM} (h : GDip G) : ∀ e ∈ esG G, e.1.free = true ∧ e.2.1.free = true := by
  intro e he
  unfold esG at he
  obtain ⟨g, hg, rfl⟩ := List.mem_map.1 he
  obtain ⟨d, hd⟩ := h g hg
  refine ⟨?_, rfl⟩
  show g.1.free = true
  rw [hd]; exact d.cells_frees
theorem sTel : SoundE Try.prog 11 (entF eTel) := frame_sound fun args h v h' hg => by
  unfold eTel at hg
  split at hg
  case h_2 => simp at hg
  rename_i a D w
  split at hg
  case h_2 => simp at hg
  rename_i f m o n z ha
  split at hg
  case h_2 => simp at hg
  rename_i es c C hm ho
  simp only [Option.some.injEq, Prod.mk.injEq] at hg
  obtain ⟨hg, rfl, rfl⟩ := hg
  rw [cdec_true] at hg
  obtain ⟨h1, h2, h3, G⟩ := hg
  obtain ⟨e1, e2, e3, e4, e5, e6, e7, H⟩ := G
  generalize unS f es c z C = S at *
  generalize dipOf D = d at *
  subst e1 e2 e3 e4 e5 e6 e7
  have e0 : h = killp h none := rfl
  refine ⟨none, [a, m, o], [3], [.ptr (some (0, 0)), .agg d.cells, .bool w], hS S, .tup [.bool (telD S d w), .int .i64 (telE d)], hT (telS S d w), [.cells [.int .i64 S.f, .map (some m), .sl (some (h.length, 0)) (telS S d w).l.length (telS S d w).z false] 3 .own none, .mp (esG (telS S d w).G) (telS S d w).c true, .dead], [.cells (rowD (telS S d w).l (telS S d w).z) 18 .own none], by simp [h1, h2, h3], by simp, by simp, ?_, ?_, ?_, runTel H d w, ?_, ?_, ?_, ?_⟩
  · exact .cons _ _ _ _ (.ptr _ _ _ (by simp [posOf])) (.cons _ _ _ _ (.free _ d.cells_frees) (.free _ rfl))
  · refine .cons _ _ _ _ _ ha (.cells _ _ _ _ _ _ (.cons _ _ _ _ (.free _ rfl) (.cons _ _ _ _ (.map _ _ ?_) (.cons _ _ _ _ (.sl _ _ _ _ _ _ ?_) .nil))) (by simp)) (.cons _ _ _ _ _ hm (.mp _ _ _ _ _ (.free _ (gd_free H.gd))) (.cons _ _ _ _ _ ho (.row (rowD_frees _ _) (by simp)) .nil))
    · simp [posOf, h1]
    · simp [posOf, h2, h3]
  · intro i hi b hb
    rw [← e0] at hb ⊢
    simp only [List.mem_cons, List.not_mem_nil, or_false] at hi
    rcases hi with rfl | rfl | rfl
    · rw [ha] at hb; cases hb; exact ⟨rfl, by simp [ABlk.par]⟩
    · rw [hm] at hb; cases hb; exact ⟨rfl, by simp [ABlk.par]⟩
    · rw [ho] at hb; cases hb; exact ⟨rfl, by simp [ABlk.par]⟩
  · rw [← e0, ← telS_f S d w]
    refine .cons _ _ _ _ _ rfl (.cells _ _ _ _ _ _ (.cons _ _ _ _ (.free _ rfl) (.cons _ _ _ _ (.map _ _ rfl) (.cons _ _ _ _ (.sl _ _ _ _ _ _ ?_) .nil))) (by simp)) (.cons _ _ _ _ _ rfl (.mp _ _ _ _ _ (.free _ (gd_free (telS_gd H d w)))) (.cons _ _ _ _ _ rfl (.dead _) .nil))
    simp [backOf, posOf]
  · exact .cons _ _ _ _ _ rfl (.row (rowD_frees _ _) (by simp)) .nil
  · rw [opq_eq, opq_eq]; exact .free _ rfl
  · rw [← e0, opq_eq, opq_eq, opq_eq, opq_eq, opq_eq]
    simp only [setAll]

end Go.Proofs.Ytpghomcohejejaa.L
