/- Operation by operation, third part: new blocks, append, copy. -/
import Derived.Test.YtmlmdbicbpicbaaAbs5
set_option autoImplicit false
set_option linter.unusedVariables false
set_option linter.unusedSimpArgs false
namespace Go.Abs
variable {P : Program} {W0 : World} {σ : Sig} {h : AHeap} {w : World}

def SimV (W0 : World) (σ : Sig) (h : AHeap) (w : World) (run : Result Value) (v : AV) (h' : AHeap) : Prop :=
  ∃ σ' w' v', run = .ok v' w' ∧ Stp σ h w σ' h' w' ∧ Rel W0 σ' h' w' ∧ VR σ' v v'

def SimU (W0 : World) (σ : Sig) (h : AHeap) (w : World) (run : Result Unit) (h' : AHeap) : Prop :=
  ∃ σ' w', run = .ok () w' ∧ Stp σ h w σ' h' w' ∧ Rel W0 σ' h' w'

theorem SimV.still (R : Rel W0 σ h w) {run : Result Value} {v : AV} {v' : Value} (hr : run = .ok v' w) (hv : VR σ v v') : SimV W0 σ h w run v h :=
  ⟨σ, w, v', hr, Stp.refl _ _ _, R, hv⟩

theorem Rel.newCells (R : Rel W0 σ h w) (t : TypeId) (c : Array Value) {xs : List AV} (esz sp : Nat) (hv : VRs σ xs (c.toList.take xs.length)) (hsp : xs.length + sp * esz ≤ c.size) (h00 : xs = [] → sp = 0) :
    Rel W0 (σ ++ [⟨w.heap.size, 0, sp⟩]) (h ++ [.cells xs esz .own none]) (w.alloc (.cells c t)) ∧ Stp σ h w (σ ++ [⟨w.heap.size, 0, sp⟩]) (h ++ [.cells xs esz .own none]) (w.alloc (.cells c t)) := by
  refine R.push _ _ _ rfl ?_
  by_cases h0 : xs = []
  · exact .inl ⟨h0, fun _ => h00 h0⟩
  · exact .inr ⟨h0, c, t, (0, 0), World.alloc_heap_new w _, by simpa using hv.grow _, fun _ => ⟨fun j _ _ => by simp, by simpa using hsp⟩⟩

theorem Rel.newAt (R : Rel W0 σ h w) (p : Plc) : (σ ++ [p])[h.length]? = some p := by rw [← R.len]; simp

theorem sim_box (R : Rel W0 σ h w) {t : TypeId} {x v : AV} {x' : Value} {h' : AHeap} (hx : VR σ x x') (hb : abox P h t x = some (v, h')) :
    SimV W0 σ h w ((Instr.box t x').run P w) v h' := by
  unfold abox at hb
  split at hb
  · rename_i xs n hxs hsz
    simp at hb
    obtain ⟨rfl, rfl⟩ := hb
    have hv := cells_vr hx hxs
    have hl := hv.length
    have := R.newCells t x'.cells (xs := xs) n 0 (by rw [List.take_of_length_le (by omega)]; exact hv) (by rw [hl]; simp) (fun _ => rfl)
    exact ⟨_, _, _, by simp [Instr.box, newVar, newRow], this.2, this.1, .ptr _ _ _ (R.newAt _)⟩
  · simp at hb

theorem sim_alloc (R : Rel W0 σ h w) {t : TypeId} {v : AV} {h' : AHeap} (hb : aalloc P h t = some (v, h')) :
    SimV W0 σ h w ((Instr.alloc t true (.tuple #[])).run P w) v h' := by
  unfold aalloc at hb
  split at hb
  · rename_i z hz
    obtain ⟨zv, h1, h2⟩ := run_zeroA hz σ w
    obtain ⟨σ', w', v', h3, h4, h5, h6⟩ := sim_box R h2 hb
    refine ⟨σ', w', v', ?_, h4, h5, h6⟩
    rw [← h3]
    simp [Instr.alloc, Instr.box, h1]
  · simp at hb

theorem rep_list (z : Array Value) (hz : 0 < z.size) : ∀ n, ((Array.range (n * z.size)).map fun i => z[i % z.size]!).toList = (List.replicate n z.toList).flatten
  | 0 => by simp
  | n + 1 => by
    have ih := rep_list z hz n
    rw [Array.toList_map, Array.toList_range] at ih ⊢
    rw [show (n + 1) * z.size = z.size + n * z.size by rw [Nat.succ_mul, Nat.add_comm], List.range_add, List.map_append, List.map_map, List.replicate_succ, List.flatten_cons, ← ih]
    congr 1
    · apply List.ext_getElem
      · simp
      · intro i h1 h2
        simp at h1
        simp [Nat.mod_eq_of_lt h1, h1]
    · apply List.map_congr_left
      intro i _
      simp

theorem zrep_vr {zc : List AV} {z : Array Value} (hz : VRs σ zc z.toList) (n : Nat) : VRs σ (zrep n zc) (List.replicate n z.toList).flatten := hz.flatten n

theorem sim_buildSlice (R : Rel W0 σ h w) {t : TypeId} {n : Nat} {ps : List (Nat × AV)} {qs : Array (Nat × Value)} {v : AV} {h' : AHeap} (hp : PartsR σ ps qs.toList) (hb : abuildSlice P h t n ps = some (v, h')) :
    SimV W0 σ h w ((Instr.buildSlice t n qs).run P w) v h' := by
  unfold abuildSlice at hb
  split at hb
  · simp at hb
  · rename_i e he
    split at hb
    · rename_i sz z hsz hz
      split at hb
      · rename_i zc hzc
        split at hb
        · rename_i hc
          simp only [Option.map_eq_some_iff] at hb
          obtain ⟨cs, hcs, hb⟩ := hb
          simp at hb
          obtain ⟨rfl, rfl⟩ := hb
          obtain ⟨zv, hz1, hz2⟩ := run_zeroA hz σ w
          have hzv := cells_vr hz2 hzc
          have hzs : zv.cells.size = sz := by rw [← Array.length_toList, ← hzv.length, hc.1]
          obtain ⟨rs, h1, h2⟩ := sim_fill hp.1 hp.2 (zrep_vr hzv n) hcs
          have := R.newCells e rs.toArray (xs := cs) sz 0 (by rw [List.take_of_length_le (by simp [h2.length])]; simpa using h2) (by simp [h2.length]) (fun _ => rfl)
          refine ⟨_, _, _, ?_, this.2, this.1, .sl _ _ _ _ _ _ ⟨w.heap.size, 0, none⟩ n (R.newAt _) (Nat.le_refl _) (by simp [capOf]) (.inl (by simp))⟩
          have hrep := rep_list zv.cells (by omega) n
          rw [hzs] at hrep
          have harr : ((Array.range (n * sz)).map fun i => zv.cells[i % sz]!) = (List.replicate n zv.cells.toList).flatten.toArray := by
            apply Array.ext'; rw [hrep]
          have hno : ¬ (n * sz > 2 ^ 24) := by omega
          simp only [Instr.buildSlice, Sem.run_bind, run_underlying (sliceElem_some he), Result.andThen_ok, run_sizeA hsz, Sem.run_ite, hno, if_false]
          by_cases h0 : n * sz = 0
          · have hn : n = 0 := by
              rcases Nat.mul_eq_zero.1 h0 with h | h
              · exact h
              · omega
            subst hn
            have e0 : ∀ f : Nat → Value, Array.map f (Array.range 0) = #[] := fun f => by apply Array.ext'; simp
            simp only [Nat.zero_mul, List.replicate_zero, List.flatten_nil, if_true, Sem.run_pure, Result.andThen_ok, e0] at h1 ⊢
            simp [h1, newRow]
          · simp only [h0, if_false, Sem.run_bind, hz1, Result.andThen_ok, Sem.run_pure, hzs, harr, h1]
            simp [newRow]
        · simp at hb
      · simp at hb
    · simp at hb

theorem sim_makeSlice (R : Rel W0 σ h w) {t : TypeId} {l c v : AV} {l' c' : Value} {h' : AHeap} {same : Bool} (hl : VR σ l l') (hcv : VR σ c c') (hsame : same = true → l = c) (hb : amakeSlice P h t l c same = some (v, h')) :
    SimV W0 σ h w ((Instr.makeSlice t l' c').run P w) v h' := by
  unfold amakeSlice at hb
  split at hb
  · rename_i e k l k2 c he
    cases hl
    cases hcv
    split at hb
    · rename_i sz by_ z hsz hby hz
      split at hb
      · rename_i zc hzc
        split at hb
        · rename_i hc
          simp at hb
          obtain ⟨rfl, rfl⟩ := hb
          obtain ⟨zv, hz1, hz2⟩ := run_zeroA hz σ w
          obtain ⟨ti, ht1, ht2⟩ := run_bytesA hby w
          have hzv := cells_vr hz2 hzc
          have hzs : zv.cells.size = sz := by rw [← Array.length_toList, ← hzv.length, hc.1]
          have hrep := rep_list zv.cells (by omega) c.toNat
          rw [hzs] at hrep
          have hlen : (zrep c.toNat zc).length = c.toNat * sz := by simp [zrep, hc.1]
          have hlen2 : (List.replicate c.toNat zv.cells.toList).flatten.length = c.toNat * sz := by rw [← (zrep_vr hzv c.toNat).length, hlen]
          have harr : ((Array.range (c.toNat * sz)).map fun i => zv.cells[i % sz]!) = (List.replicate c.toNat zv.cells.toList).flatten.toArray := by
            apply Array.ext'; rw [hrep]
          have := R.newCells e (List.replicate c.toNat zv.cells.toList).flatten.toArray (xs := zrep c.toNat zc) sz 0
            (by rw [List.take_of_length_le (by simp only [hlen, hlen2]; omega)]; exact zrep_vr hzv _) (by simp only [List.size_toArray, hlen2, hlen]; omega) (fun _ => rfl)
          refine ⟨_, _, _, ?_, this.2, this.1, .sl _ _ _ _ _ _ ⟨w.heap.size, 0, none⟩ c.toNat (R.newAt _) (by omega) (by cases same <;> simp [capOf]; have := hsame rfl; cases this; rfl) (.inl (by simp))⟩
          obtain ⟨_, hc2, hc3, hc4, hc5, hc6⟩ := hc
          have hwl : IntKind.i64.wrap l = l := by simp only [IntKind.wrap, IntKind.bits, IntKind.signed]; simp; omega
          have hwc : IntKind.i64.wrap c = c := by simp only [IntKind.wrap, IntKind.bits, IntKind.signed]; simp; omega
          have hn1 : (decide (c < 0) || decide ((ti.bytes : Int) * c > 2 ^ 48) || decide (l < 0) || decide (l > c)) = false := by
            rw [ht2]; simp; omega
          simp only [Instr.makeSlice, Sem.run_bind, run_underlying (sliceElem_some he), Result.andThen_ok, asInt, asIntOf, Sem.run_pure, ht1, hwl, hwc, run_askRoom, run_sizeA hsz, Sem.run_ite]
          rw [if_neg (by simpa using hn1)]
          by_cases h0 : c.toNat * sz = 0
          · have hn : c.toNat = 0 := by
              rcases Nat.mul_eq_zero.1 h0 with h | h
              · exact h
              · omega
            have e0 : ∀ f : Nat → Value, Array.map f (Array.range 0) = #[] := fun f => by apply Array.ext'; simp
            simp [h0, hn, newRow, e0]
          · simp only [h0, if_false, Sem.run_bind, hz1, Result.andThen_ok, Sem.run_pure, hzs, harr]
            simp [newRow]
        · simp at hb
      · simp at hb
    · simp at hb
  · simp at hb

/-! ### append -/

/-- What append is given: a row of values (n elements), read without a turn; or so many zeros. -/
inductive SrcR (P : Program) (w : World) (e : TypeId) (sz n : Nat) (new : List Value) : Option TypeId → Value → Prop
  | row (xt : Option TypeId) (x : Value) (hz : ∀ t, xt = some t → ∃ d, P.underlying t = some d ∧ ∀ k, d ≠ .int k) (hl : ∀ w, (Builtin.lenOf x).run P w = .ok n w)
      (hf : (Builtin.firstCells sz n x).run P w = .ok new.toArray w) : SrcR P w e sz n new xt x
  | zeros (t : TypeId) (k k' : IntKind) (l : Int) (z : Value) (i : TypeInfo) (ht : P.underlying t = some (.int k)) (hi : P.info? e = some i) (h0 : 0 ≤ l) (h1 : l ≤ 70368744177664) (h2 : l * i.bytes ≤ 281474976710656) (hn : n = l.toNat)
      (hz : (zeroValue e).run P w = .ok z w) (hs : z.cells.size = sz) (hnew : new = (List.replicate n z.cells.toList).flatten) : SrcR P w e sz n new (some t) (.int k' l)

theorem sim_src {e : TypeId} {xt : Option TypeId} {sz by_ n : Nat} {x : AV} {x' : Value} {new : List AV} (R : Rel W0 σ h w) (hx : VR σ x x') (hsz : sizeA P e = some sz) (hby : bytesA P e = some by_)
    (hs : aSrc P h e sz by_ xt x = some (n, new)) : ∃ new' : List Value, VRs σ new new' ∧ new'.length = n * sz ∧ SrcR P w e sz n new' xt x' := by
  unfold aSrc at hs
  have row : zerosOf P xt = some false → ∀ t, xt = some t → ∃ d, P.underlying t = some d ∧ ∀ k, d ≠ .int k := by
    intro hz t ht
    subst ht
    simp only [zerosOf] at hz
    split at hz
    · simp at hz
    · rename_i d hd hu
      exact ⟨d, hu, fun k e => hd k (by rw [← e])⟩
    · simp at hz
  split at hs
  · rename_i k l hz
    cases hx
    split at hs
    · rename_i z hzv0
      split at hs
      · rename_i zc hzc
        split at hs
        · rename_i hc
          simp at hs
          obtain ⟨rfl, rfl⟩ := hs
          obtain ⟨zv, hz1, hz2⟩ := run_zeroA hzv0 σ w
          unfold bytesA at hby
          simp only [Option.map_eq_some_iff] at hby
          obtain ⟨ti, hti, rfl⟩ := hby
          have hzv := cells_vr hz2 hzc
          have hzs : zv.cells.size = sz := by rw [← Array.length_toList, ← hzv.length, hc.1]
          unfold zerosOf at hz
          split at hz
          · rename_i t1
            split at hz
            · rename_i k1 hu
              exact ⟨_, zrep_vr hzv _, by simp [hzs], .zeros t1 k1 k l zv ti hu hti hc.2.1 hc.2.2.1 hc.2.2.2 rfl hz1 hzs rfl⟩
            · simp at hz
            · simp at hz
          · simp at hz
        · simp at hs
      · simp at hs
    · simp at hs
  · rename_i n0 c0 e0 hz
    split at hs
    · rename_i hn
      simp at hs
      obtain ⟨rfl, rfl⟩ := hs
      cases hx
      exact ⟨[], .nil, by simp, .row _ _ (row hz) (fun w => by simp [Builtin.lenOf]) (by simp [Builtin.firstCells])⟩
    · simp at hs
  · rename_i i o n0 c0 e0 hz
    simp only [Option.map_eq_some_iff] at hs
    obtain ⟨cs, hcs, hs⟩ := hs
    simp at hs
    obtain ⟨rfl, rfl⟩ := hs
    cases hx with
    | sln _ _ p hp hc =>
      refine ⟨[], ?_, by simp, .row _ _ (row hz) (fun w => by simp [Builtin.lenOf]) (by simp [Builtin.firstCells])⟩
      obtain ⟨vs, h1, h2, _⟩ := R.cellsAt hcs hp
      simp at h1
      subst h1; exact h2
    | sl _ _ _ _ _ p ad c' hp hl hc ha =>
    by_cases h0 : n0 = 0
    · subst h0
      refine ⟨[], ?_, by simp, .row _ _ (row hz) (fun w => by simp [Builtin.lenOf]) (by simp [Builtin.firstCells, loadCells, loadCellsFrom])⟩
      obtain ⟨vs, h1, h2, _⟩ := R.cellsAt hcs hp
      simp at h1
      have : vs = [] := by simpa using h1
      subst this; exact h2
    · obtain rfl := ha.resolve_right (by omega)
      obtain ⟨vs, h1, h2, h3⟩ := R.loadCells (P := P) hcs hp
      exact ⟨vs, h2, h3, .row _ _ (row hz) (fun w => by simp [Builtin.lenOf]) (by simp [Builtin.firstCells, h1])⟩
  · rename_i s hz
    split at hs
    · rename_i h1
      simp at hs
      obtain ⟨rfl, rfl⟩ := hs
      cases hx with
      | str s' =>
      refine ⟨s'.data.toList.map fun b => .int .u8 b.toNat, VRs.map_of _ _ _ fun b _ => .int _ _, by simp [h1], .row _ _ (row hz) (fun w => by simp [Builtin.lenOf]) ?_⟩
      have : s'.extract 0 s'.size = s' := by
        have := extract_list s' 0 s'.size (Nat.zero_le _) (Nat.le_refl _)
        have h2 : (s'.extract 0 s'.size).data = s'.data := by
          apply Array.ext'; rw [this, List.drop_zero, List.take_of_length_le (by simp)]
        cases s'; cases hx : ByteArray.extract _ _ _; simp_all
      simp only [Builtin.firstCells, this, Sem.run_pure]
      congr 1
      apply Array.ext'; simp
    · simp at hs
  · simp at hs

def AtBase (P : Program) (w : World) (off : Nat) (new : List Value) (w' : World) : Option Addr → Prop
  | some a => (storeCells (a.add off) new).run P w = .ok () w'
  | none => w' = w

theorem app_fit {t e ty : TypeId} {ats : Array TypeId} {base : Option Addr} {l c sz n : Nat} {x : Value} {new : List Value} {w' : World} (h0 : ats[0]? = some t) (he : P.underlying t = some (.slice e)) (hsz : sizeA P e = some sz)
    (hs : SrcR P w e sz n new ats[1]? x) (hfit : l + n ≤ c)
    (hst : AtBase P w (l * sz) new w' base) :
    (Builtin.append_ ats ty #[.slice base l c, x]).run P w = .ok (.slice base (l + n) c) w' := by
  generalize hxt : ats[1]? = xt at hs
  cases hs with
  | row _ _ hz hl hf =>
    cases xt with
    | none =>
      simp only [Builtin.append_, h0, hxt, Sem.run_bind, run_underlying he, Result.andThen_ok, run_sizeA hsz, List.getElem?_toArray, List.getElem?_cons_zero, List.getElem?_cons_succ, Sem.run_pure, Bool.false_eq_true, if_false, hl, hfit, if_true, Bool.not_false, hf]
      cases base with
      | none => simp only [AtBase] at hst; subst hst; rfl
      | some a => simp only [AtBase] at hst; simp only [Sem.run_bind, hst, Result.andThen_ok, Sem.run_pure]
    | some xt =>
      obtain ⟨d, hu, hd⟩ := hz xt rfl
      cases d <;> first
        | exact absurd rfl (hd _)
        | (simp only [Builtin.append_, h0, hxt, Sem.run_bind, run_underlying he, run_underlying hu, Result.andThen_ok, run_sizeA hsz, List.getElem?_toArray, List.getElem?_cons_zero, List.getElem?_cons_succ, Sem.run_pure, Bool.false_eq_true, if_false, hl, hfit, if_true, Bool.not_false, hf]
           cases base with
           | none => simp only [AtBase] at hst; subst hst; rfl
           | some a => simp only [AtBase] at hst; simp only [Sem.run_bind, hst, Result.andThen_ok, Sem.run_pure])
  | zeros t1 k k' lz z i ht hi hl0 hl1 hl2 hn hz hzs hnew =>
    have hwl : IntKind.i64.wrap lz = lz := by simp only [IntKind.wrap, IntKind.bits, IntKind.signed]; simp; omega
    have hti : ∀ w, (typeInfo e).run P w = .ok i w := fun w => by simp [typeInfo, hi]
    have hpos : n * sz ≠ 0 → Builtin.zeroCells z.cells n = new.toArray := by
      intro h
      have : 0 < z.cells.size := by rw [hzs]; exact Nat.pos_of_ne_zero fun e => h (by simp [e])
      have hrep := rep_list z.cells this n
      apply Array.ext'
      rw [hnew, ← hrep]; rfl
    have hnil : n * sz = 0 → new = [] := by
      intro h
      have : new.length = n * sz := by rw [hnew]; simp [hzs]
      exact List.eq_nil_of_length_eq_zero (by omega)
    have hno1 : ¬ (lz < 0) := by omega
    have hno2 : ¬ (lz * (i.bytes : Int) > 2 ^ 48) := by omega
    simp only [Builtin.append_, h0, hxt, Sem.run_bind, run_underlying he, run_underlying ht, Result.andThen_ok, run_sizeA hsz, List.getElem?_toArray, List.getElem?_cons_zero, List.getElem?_cons_succ, Sem.run_pure, if_true, asInt, asIntOf, hwl, hno1, if_false, hti, hno2, ← hn, hfit, Bool.not_true, Bool.false_eq_true, Sem.run_ite]
    by_cases hz0 : n * sz = 0
    · simp only [hz0, if_true, Sem.run_pure, Result.andThen_ok]
      rw [hnil hz0] at hst
      cases base with
      | none => simp only [AtBase] at hst; subst hst; rfl
      | some a => simp only [AtBase] at hst; simp only [Sem.run_bind, hst, Result.andThen_ok, Sem.run_pure]
    · simp only [hz0, if_false, Sem.run_bind, hz, Result.andThen_ok, Sem.run_pure, hpos hz0]
      cases base with
      | none => simp only [AtBase] at hst; subst hst; rfl
      | some a => simp only [AtBase] at hst; simp only [Sem.run_bind, hst, Result.andThen_ok, Sem.run_pure]

theorem growBy_le (newLen : Nat) : ∀ (r c : Nat), c < newLen → Builtin.growBy newLen r c ≤ 2 * newLen + 192
  | 0, c, h => by simp [Builtin.growBy]; omega
  | r + 1, c, h => by
    unfold Builtin.growBy
    split
    · omega
    · by_cases h2 : c + (c + 768) / 4 < newLen
      · exact growBy_le newLen r _ h2
      · cases r with
        | zero => simp [Builtin.growBy]; omega
        | succ r => unfold Builtin.growBy; rw [if_pos (by omega)]; omega

theorem nextcap_le (need old : Nat) (h : old < need) : Builtin.nextslicecap need old ≤ 2 * need + 192 := by
  unfold Builtin.nextslicecap
  split
  · omega
  · split
    · omega
    · exact growBy_le need 4 old h

def OldAt (P : Program) (w : World) (sz l : Nat) (old : List Value) : Option Addr → Prop
  | some a => (loadCells a (l * sz)).run P w = .ok old.toArray w
  | none => old = []

theorem app_grow {t e ty : TypeId} {ats : Array TypeId} {base : Option Addr} {l c sz n : Nat} {x : Value} {old new : List Value} {i : TypeInfo} {z : Value} (h0 : ats[0]? = some t) (he : P.underlying t = some (.slice e)) (hsz : sizeA P e = some sz)
    (hi : P.info? e = some i) (hz : ∀ w, (zeroValue e).run P w = .ok z w)
    (hs : SrcR P w.drew e sz n new ats[1]? x) (hold : OldAt P w.drew sz l old base) (hfit : c < l + n) (hb : (2 * (l + n) + 200) * i.bytes ≤ 281474976710656) (hmax : l + n ≤ 70368744177664) :
    ∃ cap', l + n ≤ cap' ∧ (Builtin.append_ ats ty #[.slice base l c, x]).run P w =
      .ok (.slice (some ⟨w.heap.size, 0, none⟩) (l + n) cap') (w.drew.alloc (.cells (old.toArray ++ new.toArray ++ Builtin.zeroCells z.cells (cap' - (l + n))) e)) := by
  have hti : ∀ w, (typeInfo e).run P w = .ok i w := fun w => by simp [typeInfo, hi]
  have hno0 : ¬ (l + n ≤ c) := by omega
  have hno3 : ¬ (((l + n : Nat) : Int) > IntKind.i64.max ∧ (false = true ∨ i.bytes = 0)) := by
    rintro ⟨h1, _⟩
    have : IntKind.i64.max = 9223372036854775807 := by rfl
    omega
  have hno3' : ¬ (((l + n : Nat) : Int) > IntKind.i64.max ∧ (true = true ∨ i.bytes = 0)) := by
    rintro ⟨h1, _⟩
    have : IntKind.i64.max = 9223372036854775807 := by rfl
    omega
  have hno4 : ¬ (Builtin.nextslicecap (l + n) c * i.bytes > 2 ^ 48) := by
    have h1 := nextcap_le (l + n) c hfit
    have h2 : Builtin.nextslicecap (l + n) c * i.bytes ≤ (2 * (l + n) + 200) * i.bytes := Nat.mul_le_mul_right _ (by omega)
    omega
  have hq : (Question.appendCap (l + n) c e).forced = false := rfl
  refine ⟨l + n + w.tape w.drawn (.appendCap (l + n) c e) % (2 ^ 63 - (l + n)), by omega, ?_⟩
  have hcut : (Question.appendCap (l + n) c e).cut (w.tape w.drawn (.appendCap (l + n) c e)) = l + n + w.tape w.drawn (.appendCap (l + n) c e) % (2 ^ 63 - (l + n)) := rfl
  have hch : (choose (.appendCap (l + n) c e)).run P w = .ok (l + n + w.tape w.drawn (.appendCap (l + n) c e) % (2 ^ 63 - (l + n))) w.drew := by
    rw [run_choose, hq, hcut]; rfl
  generalize l + n + w.tape w.drawn (.appendCap (l + n) c e) % (2 ^ 63 - (l + n)) = cap' at hch ⊢
  have hold' : (Builtin.firstCells sz l (.slice base l c)).run P w.drew = .ok old.toArray w.drew := by
    cases base with
    | none => simp only [OldAt] at hold; subst hold; rfl
    | some a => exact hold
  generalize hxt : ats[1]? = xt at hs
  cases hs with
  | row _ _ hz1 hl hf =>
    have go : ∀ zb : Bool, ∀ (hzb : zb = false), True := fun _ _ => trivial
    cases xt with
    | none =>
      simp only [Builtin.append_, h0, hxt, Sem.run_bind, run_underlying he, Result.andThen_ok, run_sizeA hsz, List.getElem?_toArray, List.getElem?_cons_zero, List.getElem?_cons_succ, Sem.run_pure, Bool.false_eq_true, if_false, hl, hno0, Bool.not_false, if_true,
        hti, Sem.run_ite, hno4, hch, run_askRoom, hold', hf, hz, newRow, run_newObj_alloc]
      simp
      intro h1; omega
    | some xt =>
      obtain ⟨d, hu, hd⟩ := hz1 xt rfl
      cases d <;> first
        | exact absurd rfl (hd _)
        | (simp only [Builtin.append_, h0, hxt, Sem.run_bind, run_underlying he, run_underlying hu, Result.andThen_ok, run_sizeA hsz, List.getElem?_toArray, List.getElem?_cons_zero, List.getElem?_cons_succ, Sem.run_pure, Bool.false_eq_true, if_false, hl, hno0, Bool.not_false, if_true,
            hti, Sem.run_ite, hno4, hch, run_askRoom, hold', hf, hz, newRow, run_newObj_alloc]
           simp
           intro h1; omega)
  | zeros t1 k k' lz z' i' ht hi' hl0 hl1 hl2 hn hz' hzs hnew =>
    have hii : i' = i := by rw [hi] at hi'; simpa using hi'.symm
    subst hii
    have hzz : z' = z := by have := hz w.drew; rw [this] at hz'; simpa using hz'.symm
    subst hzz
    have hwl : IntKind.i64.wrap lz = lz := by simp only [IntKind.wrap, IntKind.bits, IntKind.signed]; simp; omega
    have hpos : n * sz ≠ 0 → Builtin.zeroCells z'.cells n = new.toArray := by
      intro h
      have : 0 < z'.cells.size := by rw [hzs]; exact Nat.pos_of_ne_zero fun e => h (by simp [e])
      have hrep := rep_list z'.cells this n
      apply Array.ext'
      rw [hnew, ← hrep]; rfl
    have hnil : n * sz = 0 → new = [] := by
      intro h
      have : new.length = n * sz := by rw [hnew]; simp [hzs]
      exact List.eq_nil_of_length_eq_zero (by omega)
    have hno1 : ¬ (lz < 0) := by omega
    have hno2 : ¬ (lz * (i'.bytes : Int) > 2 ^ 48) := by omega
    simp only [Builtin.append_, h0, hxt, Sem.run_bind, run_underlying he, run_underlying ht, Result.andThen_ok, run_sizeA hsz, List.getElem?_toArray, List.getElem?_cons_zero, List.getElem?_cons_succ, Sem.run_pure, if_true, asInt, asIntOf, hwl, hno1, if_false, hti, hno2, ← hn, hno0, Bool.not_true, Bool.false_eq_true, Sem.run_ite,
      hno4, hch, run_askRoom, hold', newRow, run_newObj_alloc]
    by_cases hz0 : n * sz = 0
    · simp only [hz0, if_true, Sem.run_pure, Result.andThen_ok, hz]
      rw [hnil hz0]
      simp
      intro h1; omega
    · simp only [hz0, if_false, Sem.run_bind, hz, Result.andThen_ok, Sem.run_pure, hpos hz0]
      simp
      intro h1; omega

theorem Rel.alone (R : Rel W0 σ h w) {i : Nat} {b b' : ABlk} {p : Plc} (hb : h[i]? = some b) (hp : σ[i]? = some p) (hm : b.mine = true) (hro : b.isRo = false) {j : Nat} {c : ABlk} {q : Plc} (hj : j ≠ i)
    (hc : ((killp h b.par).set i b')[j]? = some c) (hmc : c.mine = true) (hq : σ[j]? = some q) : q.blk ≠ p.blk := by
  rw [List.getElem?_set_ne (fun e => hj e.symm)] at hc
  rcases killp_get hc with rfl | ⟨h1, h2⟩
  · simp [ABlk.mine] at hmc
  · intro e
    rcases R.sep (Ne.symm hj) hb h1 hp hq hm hmc e.symm with ⟨h3, _⟩ | ⟨_, h3⟩
    · exact h2 h3
    · rw [hro] at h3; cases h3

/-- A block that shares another one's place: the elder is read alone from now on. -/
theorem Rel.alias (R : Rel W0 σ h w) {i : Nat} {vs : List AV} {e : Nat} {p q : Plc} {b : ABlk} (hb : h[i]? = some (.cells vs e .ro none)) (hp : σ[i]? = some p) (hq : q.blk = p.blk) (hpar : b.par = some i) (hm : b.mine = true) (hmi : (ABlk.cells vs e .ro none).mine = true)
    (halone : ∀ {j : Nat} {c : ABlk} {r : Plc}, j ≠ i → h[j]? = some c → c.mine = true → σ[j]? = some r → r.blk ≠ p.blk) (ho : ObjR (σ ++ [q]) q w b) :
    Rel W0 (σ ++ [q]) (h ++ [b]) w ∧ Stp σ h w (σ ++ [q]) (h ++ [b]) w := by
  have key : ∀ {j : Nat} {b' : ABlk} {r : Plc}, (h ++ [b])[j]? = some b' → (σ ++ [q])[j]? = some r → (h[j]? = some b' ∧ σ[j]? = some r) ∨ (j = h.length ∧ b' = b ∧ r = q) := by
    intro j b' r h1 h2
    rcases Nat.lt_or_ge j h.length with hi | hi
    · rw [List.getElem?_append_left hi] at h1
      rw [List.getElem?_append_left (by rw [R.len]; exact hi)] at h2
      exact .inl ⟨h1, h2⟩
    · have hi' := (List.getElem?_eq_some_iff.1 h1).1
      simp at hi'
      have e : j = h.length := by omega
      subst e
      rw [List.getElem?_append_right (by simp)] at h1
      rw [List.getElem?_append_right (by rw [R.len]; simp)] at h2
      simp [R.len] at h1 h2
      exact .inr ⟨rfl, h1.symm, h2.symm⟩
  have him : i < h.length := (List.getElem?_eq_some_iff.1 hb).1
  have hown := R.own hb hp hmi
  refine ⟨⟨by simp [R.len], ?_, ?_, ?_, ?_, R.below⟩, ⟨⟨_, rfl⟩, ?_, fun _ _ _ => rfl, Nat.le_refl _⟩⟩
  · intro j b' r h1 h2
    rcases key h1 h2 with ⟨h1, h2⟩ | ⟨rfl, rfl, rfl⟩
    · exact (R.obj h1 h2).grow _
    · exact ho
  · intro j vs e par r h1 h2
    rcases key h1 h2 with ⟨h1, h2⟩ | ⟨rfl, rfl, rfl⟩
    · exact R.far h1 h2
    · have := (mine_ne_nil hm).2; simp at this
  · intro j b' r h1 h2 hb'
    rcases key h1 h2 with ⟨h1, h2⟩ | ⟨rfl, rfl, rfl⟩
    · exact R.own h1 h2 hb'
    · rw [hq]; exact hown
  · intro j k b1 b2 r s hjk h1 h2 h3 h4 hb1 hb2 hrs
    rcases key h1 h3 with ⟨k1, k3⟩ | ⟨e1, e2, e3⟩
    · rcases key h2 h4 with ⟨k2, k4⟩ | ⟨f1, f2, f3⟩
      · exact R.sep hjk k1 k2 k3 k4 hb1 hb2 hrs
      · rw [f3, hq] at hrs
        by_cases hji : j = i
        · subst hji
          rw [hb] at k1; simp at k1; subst k1
          exact .inr ⟨by rw [f2]; exact hpar, rfl⟩
        · exact absurd hrs (halone hji k1 hb1 k3)
    · rcases key h2 h4 with ⟨k2, k4⟩ | ⟨f1, f2, f3⟩
      · rw [e3, hq] at hrs
        by_cases hki : k = i
        · subst hki
          rw [hb] at k2; simp at k2; subst k2
          exact .inl ⟨by rw [e2]; exact hpar, rfl⟩
        · exact absurd hrs.symm (halone hki k2 hb2 k4)
      · exact absurd (e1.trans f1.symm) hjk
  · rintro x ⟨j, b', r, h1, h2, h3, rfl⟩
    rcases key h1 h2 with ⟨h1, h2⟩ | ⟨rfl, rfl, rfl⟩
    · exact .inl ⟨j, b', r, h1, h2, h3, rfl⟩
    · exact .inl ⟨i, _, p, hb, hp, hmi, hq.symm⟩

theorem putV_take : ∀ (ys C : List Value) (o n : Nat), n ≤ o → (putV C o ys).take n = C.take n
  | [], _, _, _, _ => rfl
  | y :: ys, C, o, n, hn => by
    rw [putV, putV_take ys _ (o + 1) n (by omega), List.take_set]
    rw [List.set_eq_of_length_le (by simp; omega)]

theorem putV_drop : ∀ (ys C : List Value) (o : Nat), o + ys.length ≤ C.length → ((putV C o ys).drop o).take ys.length = ys
  | [], C, o, h => by simp
  | y :: ys, C, o, h => by
    have hl : o < C.length := by simp at h; omega
    rw [putV]
    have ih := putV_drop ys (C.set o y) (o + 1) (by simp at h ⊢; omega)
    have hget : (putV (C.set o y) (o + 1) ys)[o]? = some y := by
      have : ((putV (C.set o y) (o + 1) ys).take (o + 1))[o]? = ((C.set o y).take (o + 1))[o]? := by rw [putV_take ys _ (o + 1) (o + 1) (Nat.le_refl _)]
      simp [List.getElem?_take] at this
      rw [this]; simp [hl]
    have hlen : o < (putV (C.set o y) (o + 1) ys).length := by rw [putV_length]; simpa using hl
    rw [List.drop_eq_getElem_cons hlen, List.length_cons, List.take_succ_cons, ih]
    congr 1
    rw [List.getElem?_eq_getElem hlen] at hget
    simpa using hget

/-- An empty block more, of nothing that there is. -/
theorem Rel.pushVoid (R : Rel W0 σ h w) (e : Nat) (par : Option Nat) (p : Plc) (hs : p.spare = 0) :
    Rel W0 (σ ++ [p]) (h ++ [.cells [] e .own par]) w ∧ Stp σ h w (σ ++ [p]) (h ++ [.cells [] e .own par]) w := by
  have key : ∀ {j : Nat} {b' : ABlk} {r : Plc}, (h ++ [ABlk.cells [] e .own par])[j]? = some b' → (σ ++ [p])[j]? = some r → (h[j]? = some b' ∧ σ[j]? = some r) ∨ (b' = .cells [] e .own par ∧ r = p) := by
    intro j b' r h1 h2
    rcases Nat.lt_or_ge j h.length with hi | hi
    · rw [List.getElem?_append_left hi] at h1
      rw [List.getElem?_append_left (by rw [R.len]; exact hi)] at h2
      exact .inl ⟨h1, h2⟩
    · have hi' := (List.getElem?_eq_some_iff.1 h1).1
      simp at hi'
      have e : j = h.length := by omega
      subst e
      rw [List.getElem?_append_right (by simp)] at h1
      rw [List.getElem?_append_right (by rw [R.len]; simp)] at h2
      simp [R.len] at h1 h2
      exact .inr ⟨h1.symm, h2.symm⟩
  refine ⟨⟨by simp [R.len], fun h1 h2 => ?_, fun h1 h2 hvs => ?_, fun h1 h2 hm => ?_, fun hij h1 h2 h3 h4 m1 m2 => ?_, R.below⟩, ⟨⟨_, rfl⟩, ?_, fun _ _ _ => rfl, Nat.le_refl _⟩⟩
  · rcases key h1 h2 with ⟨h1, h2⟩ | ⟨rfl, rfl⟩
    · exact (R.obj h1 h2).grow _
    · exact .inl ⟨rfl, fun _ => hs⟩
  · rcases key h1 h2 with ⟨h1, h2⟩ | ⟨e1, rfl⟩
    · exact R.far h1 h2 hvs
    · cases e1
  · rcases key h1 h2 with ⟨h1, h2⟩ | ⟨rfl, rfl⟩
    · exact R.own h1 h2 hm
    · simp [ABlk.mine] at hm
  · rcases key h1 h3 with ⟨k1, k3⟩ | ⟨rfl, _⟩
    · rcases key h2 h4 with ⟨k2, k4⟩ | ⟨rfl, _⟩
      · exact R.sep hij k1 k2 k3 k4 m1 m2
      · simp [ABlk.mine] at m2
    · simp [ABlk.mine] at m1
  · rintro x ⟨i, b', q, h1, h2, h3, rfl⟩
    rcases key h1 h2 with ⟨h1, h2⟩ | ⟨rfl, rfl⟩
    · exact .inl ⟨i, b', q, h1, h2, h3, rfl⟩
    · simp [ABlk.mine] at h3

/-- One of the call's own rows is read alone from now on; who might share it is told no more. -/
theorem Rel.retire (R : Rel W0 σ h w) {i : Nat} {vs : List AV} {e : Nat} {par : Option Nat} {p : Plc} (hb : h[i]? = some (.cells vs e .own par)) (hp : σ[i]? = some p) :
    Rel W0 σ ((killp h par).set i (.cells vs e .ro none)) w ∧ Stp σ h w σ ((killp h par).set i (.cells vs e .ro none)) w := by
  have hi : i < h.length := (List.getElem?_eq_some_iff.1 hb).1
  by_cases hvs : vs = []
  · subst hvs
    have key : ∀ {j : Nat} {c : ABlk}, ((killp h par).set i (.cells [] e .ro none))[j]? = some c → c = .cells [] e .ro none ∨ c = .dead ∨ h[j]? = some c := by
      intro j c hc
      rw [List.getElem?_set] at hc
      by_cases e : i = j
      · subst e
        rw [if_pos rfl, if_pos (by rw [killp_length]; exact hi)] at hc
        exact .inl (by simpa using hc.symm)
      · rw [if_neg e] at hc
        rcases killp_get hc with h1 | ⟨h1, _⟩
        · exact .inr (.inl h1)
        · exact .inr (.inr h1)
    refine ⟨⟨by simp [killp_length, R.len], fun h1 h2 => ?_, fun h1 h2 hvs => ?_, fun h1 h2 hm => ?_, fun hij h1 h2 h3 h4 m1 m2 => ?_, R.below⟩, ⟨⟨[], by simp⟩, ?_, fun _ _ _ => rfl, Nat.le_refl _⟩⟩
    · rcases key h1 with rfl | rfl | h1
      · exact .inl ⟨rfl, fun h => by cases h⟩
      · trivial
      · exact R.obj h1 h2
    · rcases key h1 with e1 | e1 | h1
      · cases e1
      · cases e1
      · exact R.far h1 h2 hvs
    · rcases key h1 with rfl | rfl | h1
      · simp [ABlk.mine] at hm
      · simp [ABlk.mine] at hm
      · exact R.own h1 h2 hm
    · rcases key h1 with rfl | rfl | h1
      · simp [ABlk.mine] at m1
      · simp [ABlk.mine] at m1
      · rcases key h2 with rfl | rfl | h2
        · simp [ABlk.mine] at m2
        · simp [ABlk.mine] at m2
        · exact R.sep hij h1 h2 h3 h4 m1 m2
    · rintro x ⟨j, c, q, h1, h2, h3, rfl⟩
      rcases key h1 with rfl | rfl | h1
      · simp [ABlk.mine] at h3
      · simp [ABlk.mine] at h3
      · exact .inl ⟨j, c, q, h1, h2, h3, rfl⟩
  · rcases R.obj hb hp with ⟨h0, _⟩ | ⟨_, c, t, fr, b1, b2, b3⟩
    · exact absurd h0 hvs
    · exact R.modify (w' := w) (b' := .cells vs e .ro none) hb hp (mine_of hvs (by simp)) rfl rfl (fun _ _ => rfl) rfl R.below (.inr ⟨hvs, c, t, fr, b1, b2, fun h => by cases h⟩)

end Go.Abs
