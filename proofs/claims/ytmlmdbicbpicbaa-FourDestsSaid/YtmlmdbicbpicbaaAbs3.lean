/- Reading and writing cells: the abstract heap and the world step alike. -/
import Derived.Test.YtmlmdbicbpicbaaAbs2
set_option autoImplicit false
set_option linter.unusedVariables false
set_option linter.unusedSimpArgs false
namespace Go.Abs

theorem addr_add (b o n : Nat) : (⟨b, o, none⟩ : Addr).add n = ⟨b, o + n, none⟩ := by
  unfold Addr.add; split <;> simp_all

def putV : List Value → Nat → List Value → List Value
  | vs, _, [] => vs
  | vs, o, x :: xs => putV (vs.set o x) (o + 1) xs

theorem putV_length : ∀ (xs vs : List Value) (o : Nat), (putV vs o xs).length = vs.length
  | [], _, _ => rfl
  | x :: xs, vs, o => by rw [putV, putV_length xs]; simp

theorem putCells_length : ∀ (xs vs : List AV) (o : Nat), (putCells vs o xs).length = vs.length
  | [], _, _ => rfl
  | x :: xs, vs, o => by rw [putCells, putCells_length xs]; simp

theorem VRs.put {σ : Sig} : ∀ {xs : List AV} {ys : List Value}, VRs σ xs ys → ∀ {vs : List AV} {ws : List Value} (o : Nat), VRs σ vs ws → VRs σ (putCells vs o xs) (putV ws o ys)
  | _, _, .nil, _, _, _, h => h
  | _, _, .cons _ _ _ _ hx t, _, _, o, h => VRs.put t (o + 1) (h.set o hx)

theorem putV_window : ∀ (ys C : List Value) (off o n : Nat), ((putV C (off + o) ys).drop off).take n = putV ((C.drop off).take n) o ys
  | [], _, _, _, _ => rfl
  | y :: ys, C, off, o, n => by
    rw [putV, putV, show off + o + 1 = off + (o + 1) by omega, putV_window ys, List.drop_set, if_neg (by omega), List.take_set]
    simp

theorem setCell_heap_same {w : World} {b o : Nat} {v : Value} {c : Array Value} {t : TypeId} {fr : Nat × Nat} (h : w.heap[b]? = some (.cells c t fr)) :
    (w.setCell ⟨b, o, none⟩ v).heap[b]? = some (.cells (c.setIfInBounds o v) t fr) := by
  simp [World.setCell, Array.getElem?_modify, h]

theorem setCells_heap_same : ∀ (ys : List Value) (w : World) (b o : Nat) (c : Array Value) (t : TypeId) (fr : Nat × Nat), w.heap[b]? = some (.cells c t fr) →
    ∃ c' : Array Value, (w.setCells b o ys).heap[b]? = some (.cells c' t fr) ∧ c'.toList = putV c.toList o ys
  | [], w, b, o, c, t, fr, h => ⟨c, h, rfl⟩
  | y :: ys, w, b, o, c, t, fr, h => by
    obtain ⟨c', h1, h2⟩ := setCells_heap_same ys _ b (o + 1) _ t fr (setCell_heap_same (o := o) (v := y) h)
    exact ⟨c', h1, by rw [h2, putV]; simp⟩

theorem setCells_heap_other : ∀ (ys : List Value) (w : World) (b o k : Nat), k ≠ b → (w.setCells b o ys).heap[k]? = w.heap[k]?
  | [], _, _, _, _, _ => rfl
  | y :: ys, w, b, o, k, h => by rw [World.setCells, setCells_heap_other ys _ b _ k h, RowKit.Below.heap_setCell _ _ _ _ h]

theorem setCells_size : ∀ (ys : List Value) (w : World) (b o : Nat), (w.setCells b o ys).heap.size = w.heap.size
  | [], _, _, _ => rfl
  | y :: ys, w, b, o => by rw [World.setCells, setCells_size ys]; simp

theorem Below.setCells {B : Nat} {a : World} : ∀ (ys : List Value) {w : World} (h : RowKit.Below B a w) {b : Nat} (hb : B ≤ b) (o : Nat), RowKit.Below B a (w.setCells b o ys)
  | [], _, h, _, _, _ => h
  | y :: ys, _, h, _, hb, o => Below.setCells ys (h.setCell (p := ⟨_, o, none⟩) hb y) hb (o + 1)

theorem VR.oneCell {σ : Sig} {a : AV} {v : Value} (h : VR σ a v) (hc : a.isCell = true) : v.oneCell' = true := by
  cases h <;> first | rfl | (simp [AV.isCell] at hc)

theorem VRs.oneCells {σ : Sig} {l : List AV} {m : List Value} (h : VRs σ l m) (hc : l.all AV.isCell = true) : ∀ v ∈ m, v.oneCell' = true := by
  intro v hv
  obtain ⟨i, hi, rfl⟩ := List.mem_iff_getElem.1 hv
  have hl : i < l.length := by rw [h.length]; exact hi
  obtain ⟨v', h1, h2⟩ := h.get (List.getElem?_eq_getElem hl)
  rw [List.getElem?_eq_getElem hi] at h1
  simp at h1; subst h1
  exact h2.oneCell (List.all_eq_true.1 hc _ (List.getElem_mem hl))

variable {P : Program} {W0 : World} {σ : Sig} {h : AHeap} {w : World}

theorem killp_get_ne {h : AHeap} {par : Option Nat} {j : Nat} (hj : par ≠ some j) : (killp h par)[j]? = h[j]? := by
  cases par with
  | none => rfl
  | some p => rw [killp, List.getElem?_set_ne (by simpa using hj)]

theorem killp_length (h : AHeap) (par : Option Nat) : (killp h par).length = h.length := by cases par <;> simp [killp]

theorem killp_get {h : AHeap} {par : Option Nat} {j : Nat} {b : ABlk} (hb : (killp h par)[j]? = some b) : b = .dead ∨ (h[j]? = some b ∧ par ≠ some j) := by
  cases par with
  | none => exact .inr ⟨hb, by simp⟩
  | some p =>
    rw [killp, List.getElem?_set] at hb
    by_cases e : p = j
    · subst e
      simp only [if_true] at hb
      split at hb
      · simp at hb; exact .inl hb.symm
      · simp at hb
    · rw [if_neg e] at hb; exact .inr ⟨hb, by simpa using e⟩

/-- One of the call's own blocks is turned; who might share it is told no more. -/
theorem Rel.modify (R : Rel W0 σ h w) {i : Nat} {b b' : ABlk} {p : Plc} {w' : World} (hb : h[i]? = some b) (hp : σ[i]? = some p) (hm : b.mine = true) (hro : b.isRo = false) (hm' : b'.isFar = false)
    (hw : ∀ k, k ≠ p.blk → w'.heap[k]? = w.heap[k]?) (hs : w'.heap.size = w.heap.size) (hbl : RowKit.Below W0.heap.size W0 w') (ho : ObjR σ p w' b') :
    Rel W0 σ ((killp h b.par).set i b') w' ∧ Stp σ h w σ ((killp h b.par).set i b') w' := by
  have hi : i < h.length := (List.getElem?_eq_some_iff.1 hb).1
  have key : ∀ {j : Nat} {c : ABlk}, ((killp h b.par).set i b')[j]? = some c → (j = i ∧ c = b') ∨ (j ≠ i ∧ (c = .dead ∨ (h[j]? = some c ∧ b.par ≠ some j))) := by
    intro j c hc
    rw [List.getElem?_set] at hc
    by_cases e : i = j
    · subst e
      rw [if_pos rfl, if_pos (by rw [killp_length]; exact hi)] at hc
      exact .inl ⟨rfl, by simpa using hc.symm⟩
    · rw [if_neg e] at hc
      exact .inr ⟨fun x => e x.symm, killp_get hc⟩
  have apart : ∀ {j : Nat} {c : ABlk} {q : Plc}, j ≠ i → h[j]? = some c → σ[j]? = some q → c.void = false → b.par ≠ some j → q.blk ≠ p.blk := by
    intro j c q hj hc hq hd hpar e
    by_cases hmc : c.mine = true
    · rcases R.sep (Ne.symm hj) hb hc hp hq hm hmc e.symm with ⟨h1, _⟩ | ⟨_, h1⟩
      · exact hpar h1
      · rw [hro] at h1; cases h1
    · have : ∃ v vs e par, c = .cells (v :: vs) e .far par := by
        cases c with
        | cells vs e md par =>
          cases vs with
          | nil => cases md <;> simp [ABlk.mine, ABlk.void] at hmc hd
          | cons v vs => cases md <;> first | exact ⟨_, _, _, _, rfl⟩ | simp [ABlk.mine] at hmc
        | mp => simp [ABlk.mine] at hmc
        | lp => simp [ABlk.mine] at hmc
        | dead => simp [ABlk.void] at hd
      obtain ⟨v, vs, e', par, rfl⟩ := this
      have h1 := R.far hc hq (by simp)
      have h2 := R.own hb hp hm
      omega
  refine ⟨⟨by simp [killp_length, R.len], ?_, ?_, ?_, ?_, hbl⟩, ⟨⟨[], by simp⟩, ?_, fun k hk hn => hw k fun e => hn ⟨i, b, p, hb, hp, hm, e.symm⟩, by omega⟩⟩
  · intro j c q hc hq
    rcases key hc with ⟨rfl, rfl⟩ | ⟨hj, rfl | ⟨hc', hpar⟩⟩
    · rw [hp] at hq; simp at hq; subst hq; exact ho
    · trivial
    · exact (R.obj hc' hq).keep fun hd => hw _ (apart hj hc' hq hd hpar)
  · intro j vs e par q hc hq
    rcases key hc with ⟨rfl, e1⟩ | ⟨hj, e1 | ⟨hc', hpar⟩⟩
    · rw [← e1] at hm'; simp [ABlk.isFar] at hm'
    · cases e1
    · exact R.far hc' hq
  · intro j c q hc hq hmc
    rcases key hc with ⟨rfl, e1⟩ | ⟨hj, e1 | ⟨hc', hpar⟩⟩
    · rw [hp] at hq; simp at hq; subst hq; exact R.own hb hp hm
    · subst e1; simp [ABlk.mine] at hmc
    · exact R.own hc' hq hmc
  · intro j k c c' q q' hjk hc hc' hq hq' hmc hmc' e
    rcases key hc with ⟨e0, e1⟩ | ⟨hj, e1 | ⟨k1, hpar⟩⟩
    · rcases key hc' with ⟨f0, f1⟩ | ⟨hk, f1 | ⟨k2, hpar'⟩⟩
      · exact absurd (e0.trans f0.symm) hjk
      · subst f1; simp [ABlk.mine] at hmc'
      · subst e0
        rw [hp] at hq; simp at hq; subst hq
        exact absurd e.symm (apart hk k2 hq' (ABlk.mine_ne hmc') hpar')
    · subst e1; simp [ABlk.mine] at hmc
    · rcases key hc' with ⟨f0, f1⟩ | ⟨hk, f1 | ⟨k2, hpar'⟩⟩
      · subst f0
        rw [hp] at hq'; simp at hq'; subst hq'
        exact absurd e (apart hj k1 hq (ABlk.mine_ne hmc) hpar)
      · subst f1; simp [ABlk.mine] at hmc'
      · exact R.sep hjk k1 k2 hq hq' hmc hmc' e
  · rintro x ⟨j, c, q, hc, hq, hmc, rfl⟩
    rcases key hc with ⟨rfl, e1⟩ | ⟨hj, e1 | ⟨hc', hpar⟩⟩
    · rw [hp] at hq; simp at hq; subst hq; exact .inl ⟨j, b, p, hb, hp, hm, rfl⟩
    · subst e1; simp [ABlk.mine] at hmc
    · exact .inl ⟨j, c, q, hc', hq, hmc, rfl⟩

/-- A cell that is told is read. -/
theorem Rel.cellAt (R : Rel W0 σ h w) {i o : Nat} {a : AV} {p : Plc} (hc : cellAt h i o = some a) (hp : σ[i]? = some p) :
    ∃ v, w.cell? ⟨p.blk, p.off + o, none⟩ = some v ∧ VR σ a v := by
  unfold Abs.cellAt at hc
  split at hc
  · rename_i vs esz md par hb
    rcases R.obj hb hp with ⟨rfl, _⟩ | ⟨_, c, t, fr, h1, h2, _⟩
    · simp at hc
    obtain ⟨v, h3, h4⟩ := h2.get hc
    refine ⟨v, ?_, h4⟩
    rw [List.getElem?_take] at h3
    split at h3
    · rw [List.getElem?_drop] at h3
      simp [World.cell?, h1]
      simpa using h3
    · simp at h3
  · simp at hc

theorem Rel.cellsAt (R : Rel W0 σ h w) {i o n : Nat} {cs : List AV} {p : Plc} (hc : cellsAt h i o n = some cs) (hp : σ[i]? = some p) :
    ∃ vs : List Value, vs.length = n ∧ VRs σ cs vs ∧ (∀ j v, vs[j]? = some v → w.cell? ⟨p.blk, p.off + o + j, none⟩ = some v) := by
  unfold Abs.cellsAt at hc
  split at hc
  · rename_i vs esz md par hb
    split at hc
    · rename_i hle
      simp at hc
      subst hc
      rcases R.obj hb hp with ⟨rfl, _⟩ | ⟨_, c, t, fr, h1, h2, _⟩
      · have : n = 0 := by simp at hle; omega
        subst this
        exact ⟨[], rfl, by simpa using VRs.nil, by simp⟩
      have hl := h2.length
      have hlen : ((((c.toList.drop p.off).take vs.length).drop o).take n).length = n := by
        have := congrArg (fun x => x - o) hl.symm
        simp only [List.length_take, List.length_drop] at *
        omega
      refine ⟨(((c.toList.drop p.off).take vs.length).drop o).take n, hlen, (h2.drop o).take n, fun j v hj => ?_⟩
      rw [List.getElem?_take] at hj
      split at hj
      · rw [List.getElem?_drop, List.getElem?_take] at hj
        split at hj
        · rw [List.getElem?_drop] at hj
          simp [World.cell?, h1, Nat.add_assoc]
          simpa using hj
        · simp at hj
      · simp at hj
    · simp at hc
  · simp at hc

theorem Rel.loadCells (R : Rel W0 σ h w) {i o n : Nat} {cs : List AV} {p : Plc} (hc : Abs.cellsAt h i o n = some cs) (hp : σ[i]? = some p) :
    ∃ vs : List Value, (loadCells ⟨p.blk, p.off + o, none⟩ n).run P w = .ok vs.toArray w ∧ VRs σ cs vs ∧ vs.length = n := by
  obtain ⟨vs, h1, h2, h3⟩ := R.cellsAt hc hp
  refine ⟨vs, ?_, h2, h1⟩
  have := run_loadCells_list (P := P) w ⟨p.blk, p.off + o, none⟩ vs (fun j v hj => by rw [addr_add]; exact h3 j v hj)
  rwa [h1] at this

/-- Cells are written in a row. -/
theorem Rel.putAt (R : Rel W0 σ h w) {i o : Nat} {xs : List AV} {ys : List Value} {h' : AHeap} {p : Plc} (hput : putAt h i o xs = some h') (hx : xs ≠ []) (hp : σ[i]? = some p) (hv : VRs σ xs ys) :
    ∃ w', (storeCells ⟨p.blk, p.off + o, none⟩ ys).run P w = .ok () w' ∧ Rel W0 σ h' w' ∧ Stp σ h w σ h' w' := by
  unfold Abs.putAt at hput
  split at hput
  · rename_i vs esz par hb
    split at hput
    · rename_i hc
      obtain ⟨hle, hone⟩ := hc
      simp at hput
      subst hput
      rcases R.obj hb hp with ⟨rfl, _⟩ | ⟨hne, c, t, fr, h1, h2, h3⟩
      · cases xs with
        | nil => exact absurd rfl hx
        | cons x xs => simp at hle
      obtain ⟨hfr, hsz⟩ := h3 rfl
      have hl := h2.length
      have hyl := hv.length
      have hcs : p.off + vs.length ≤ c.size := by omega
      have hcell : ∀ j, j < ys.length → (w.cell? ⟨p.blk, p.off + o + 0 + j, none⟩).isSome = true := by
        intro j hj
        have : p.off + o + 0 + j < c.size := by omega
        simp [World.cell?, h1]; omega
      have hnf : ∀ j, j < ys.length → w.frozen? ⟨p.blk, p.off + o + 0 + j, none⟩ = false := by
        intro j hj
        have := hfr (p.off + o + 0 + j) (by omega) (by omega)
        simp only [World.frozen?, h1]
        simp only [Bool.and_eq_false_iff, decide_eq_false_iff_not]
        by_cases hx : fr.1 ≤ p.off + o + 0 + j
        · exact .inr fun hy => this ⟨hx, hy⟩
        · exact .inl hx
      have hst := run_storeCells_cells (P := P) p.blk (p.off + o) ys 0 w hcell hnf (hv.oneCells hone)
      simp only [Nat.add_zero] at hst
      refine ⟨w.setCells p.blk (p.off + o) ys, hst, ?_⟩
      have ho : ObjR σ p (w.setCells p.blk (p.off + o) ys) (.cells (putCells vs o xs) esz .own none) := by
        obtain ⟨c', e1, e2⟩ := setCells_heap_same ys w p.blk (p.off + o) c t fr h1
        have hsz' : c'.size = c.size := by rw [← Array.length_toList, e2, putV_length, Array.length_toList]
        refine .inr ⟨fun h0 => hne (List.eq_nil_of_length_eq_zero (by have := congrArg List.length h0; rw [putCells_length] at this; simpa using this)), c', t, fr, e1, ?_, fun _ => ⟨fun j h1 h2 => hfr j h1 (by omega), by rw [putCells_length, hsz']; exact hsz⟩⟩
        rw [e2, putCells_length, putV_window]
        exact hv.put o h2
      have := R.modify (b' := .cells (putCells vs o xs) esz .own none) hb hp (mine_of hne (by simp)) rfl rfl (fun k hk => setCells_heap_other ys w p.blk (p.off + o) k hk) (setCells_size ys w p.blk (p.off + o))
        (Below.setCells ys R.below (R.own hb hp (mine_of hne (by simp))) _) ho
      exact this
    · simp at hput
  · simp at hput

end Go.Abs
