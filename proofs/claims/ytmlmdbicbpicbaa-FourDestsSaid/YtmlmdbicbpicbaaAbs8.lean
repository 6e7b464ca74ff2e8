/- Operation by operation: copy, len, cap, clear, conversions, numbers, equality. -/
import Derived.Test.YtmlmdbicbpicbaaAbs7
set_option autoImplicit false
set_option linter.unusedVariables false
set_option linter.unusedSimpArgs false
namespace Go.Abs
variable {P : Program} {W0 : World} {σ : Sig} {h : AHeap} {w : World}

theorem sim_copyTo (R : Rel W0 σ h w) {ats : Array TypeId} {t ty e : TypeId} {base : Option (Nat × Nat)} {dl cap sl sz : Nat} {ex : Bool} {cs : List AV} {cs' : List Value} {v : AV} {d' s' : Value} {h' : AHeap} (hd : VR σ (.sl base dl cap ex) d')
    (h0 : ats[0]? = some t) (hu : P.underlying t = some (.slice e)) (hsz : sizeA P e = some sz) (hcs : VRs σ cs cs') (hl : ∀ w, (Builtin.lenOf s').run P w = .ok sl w)
    (hf : (Builtin.firstCells sz (Nat.min sl dl) s').run P w = .ok cs'.toArray w) (hm : acopyTo h base dl sl cs = some (v, h')) : SimV W0 σ h w ((Builtin.copy_ ats ty #[d', s']).run P w) v h' := by
  unfold acopyTo at hm
  split at hm
  · rename_i hcl
    simp at hm
    obtain ⟨rfl, rfl⟩ := hm
    have : cs' = [] := by
      have := hcs.length
      rw [hcl] at this
      exact List.eq_nil_of_length_eq_zero this.symm
    subst this
    refine SimV.still R ?_ (.int _ _)
    cases hd with
    | sl0 => simp only [Builtin.copy_, h0, Sem.run_bind, run_underlying hu, Result.andThen_ok, List.getElem?_toArray, List.getElem?_cons_zero, List.getElem?_cons_succ, hl, run_sizeA hsz, hf, Sem.run_pure, goInt]
    | sln => simp only [Builtin.copy_, h0, Sem.run_bind, run_underlying hu, Result.andThen_ok, List.getElem?_toArray, List.getElem?_cons_zero, List.getElem?_cons_succ, hl, run_sizeA hsz, hf, Sem.run_pure, goInt]
    | sl => simp only [Builtin.copy_, h0, Sem.run_bind, run_underlying hu, Result.andThen_ok, List.getElem?_toArray, List.getElem?_cons_zero, List.getElem?_cons_succ, hl, run_sizeA hsz, hf, storeCells, Sem.run_pure, goInt]
  rename_i hcl
  split at hm
  · rename_i i o
    split at hm
    · rename_i hpos
      simp only [Option.map_eq_some_iff] at hm
      obtain ⟨h1, hput, hm⟩ := hm
      simp at hm
      obtain ⟨rfl, rfl⟩ := hm
      cases hd with
      | sln => omega
      | sl _ _ _ _ _ p ad c' hp hlc hc hadr =>
      obtain rfl := hadr.resolve_right (by omega)
      obtain ⟨w', e1, e2, e3⟩ := R.putAt (P := P) hput (by rintro rfl; exact hcl rfl) hp hcs
      exact ⟨σ, w', _, by simp only [Builtin.copy_, h0, Sem.run_bind, run_underlying hu, Result.andThen_ok, List.getElem?_toArray, List.getElem?_cons_zero, List.getElem?_cons_succ, hl, run_sizeA hsz, hf, e1, Sem.run_pure, goInt], e3, e2, .int _ _⟩
    · simp at hm
  · simp at hm

theorem sim_copy (R : Rel W0 σ h w) {ats : Array TypeId} {ty : TypeId} {d s v : AV} {d' s' : Value} {h' : AHeap} (hd : VR σ d d') (hs : VR σ s s') (ha : acopy P h ats.toList d s = some (v, h')) :
    SimV W0 σ h w ((Builtin.copy_ ats ty #[d', s']).run P w) v h' := by
  unfold acopy at ha
  split at ha
  · rename_i e base dl cap ex he0
    simp only [Option.bind_eq_some_iff] at he0
    obtain ⟨t, ht, he⟩ := he0
    have h0 : ats[0]? = some t := by rw [← Array.getElem?_toList]; exact ht
    have hu := sliceElem_some he
    split at ha
    · rename_i sz hsz
      split at ha
      · split at ha
        · cases hs
          exact sim_copyTo R hd h0 hu hsz .nil (fun w => by simp [Builtin.lenOf]) (by simp [Builtin.firstCells]) ha
        · simp at ha
      · rename_i i o n c0 e0
        cases hs with
        | sln _ _ p hp hc =>
          rw [if_pos rfl] at ha
          exact sim_copyTo R hd h0 hu hsz .nil (fun w => by simp [Builtin.lenOf]) (by simp [Builtin.firstCells]) ha
        | sl _ _ _ _ _ p ad c' hp hlc hc hadr =>
        split at ha
        · rename_i hn; subst hn
          exact sim_copyTo R hd h0 hu hsz .nil (fun w => by simp [Builtin.lenOf]) (by simp [Builtin.firstCells, loadCells, loadCellsFrom]) ha
        · rename_i hn
          simp only [Option.bind_eq_some_iff] at ha
          obtain ⟨cs, hcs, ha⟩ := ha
          obtain rfl := hadr.resolve_right (by omega)
          obtain ⟨vs, h1, h2, h3⟩ := R.loadCells (P := P) hcs hp
          exact sim_copyTo R hd h0 hu hsz h2 (fun w => by simp [Builtin.lenOf]) (by simp [Builtin.firstCells, h1]) ha
      · rename_i s
        split at ha
        · rename_i h1
          cases hs with
          | str s' =>
          refine sim_copyTo R hd h0 hu hsz (cs' := (s'.data.toList.take (Nat.min s'.data.toList.length dl)).map fun b => .int .u8 b.toNat) (VRs.map_of _ _ _ fun b _ => .int _ _) (fun w => by simp [Builtin.lenOf]) ?_ ha
          have hx := extract_list s' 0 (Nat.min s'.data.toList.length dl) (Nat.zero_le _) (by simp; exact Nat.min_le_left _ _)
          rw [List.drop_zero] at hx
          simp only [Builtin.firstCells, Sem.run_pure]
          congr 1
          apply Array.ext'
          rw [← hx]; simp
        · simp at ha
      · simp at ha
    · simp at ha
  · simp at ha

theorem sim_len (R : Rel W0 σ h w) {t ty : TypeId} {x v : AV} {x' : Value} (hx : VR σ x x') (hl : alen P h t x = some v) : ∃ v', (Builtin.len_ #[t] ty #[x']).run P w = .ok v' w ∧ VR σ v v' := by
  unfold alen at hl
  split at hl
  · rename_i s hu; simp at hl; subst hl; cases hx
    rename_i s'
    exact ⟨.int .i64 s'.size, by simp [Builtin.len_, run_underlying hu, goInt], by simpa using VR.int (σ := σ) .i64 s'.size⟩
  · rename_i n e hu; simp at hl; subst hl
    exact ⟨_, by simp [Builtin.len_, run_underlying hu, goInt], .int _ _⟩
  · rename_i e a n c ex hu; simp at hl; subst hl
    cases hx <;> exact ⟨_, by simp [Builtin.len_, run_underlying hu, goInt], .int _ _⟩
  · rename_i k e hu; simp at hl; subst hl; cases hx
    exact ⟨_, by simp [Builtin.len_, run_underlying hu, goInt], .int _ _⟩
  · rename_i k e r hu
    split at hl
    · rename_i es clk hr
      simp at hl; subst hl
      cases hx with
      | map _ p hp =>
      obtain ⟨es', h1, h2⟩ := R.obj hr hp
      have hlen : es.length = es'.size := by
        have : ∀ {l : List (AV × AV × Nat)} {m : List MapEntry}, ERs σ l m → l.length = m.length := by
          intro l m hh
          induction hh with
          | nil => rfl
          | cons k v b e l m hk hv hb t ih => simp [ih]
        simpa using this h2
      have hg : (getObj p.blk).run P w = .ok (.map es' clk) w := by simp [getObj, Sem.run, h1]
      exact ⟨.int .i64 es'.size, by simp [Builtin.len_, run_underlying hu, hg, goInt], by rw [hlen]; exact .int _ _⟩
    · simp at hl
  · simp at hl

theorem sim_cap {t ty : TypeId} {x v : AV} {x' : Value} (hx : VR σ x x') (hl : acap P t x = some v) (w : World) : ∃ v', (Builtin.cap_ #[t] ty #[x']).run P w = .ok v' w ∧ VR σ v v' := by
  unfold acap at hl
  split at hl
  · rename_i n e hu; simp at hl; subst hl
    exact ⟨_, by simp [Builtin.cap_, run_underlying hu, goInt], .int _ _⟩
  · rename_i e a c ex hu; simp at hl; subst hl
    cases hx
    exact ⟨_, by simp [Builtin.cap_, run_underlying hu, goInt], .int _ _⟩
  · rename_i e a n c hu; simp at hl; subst hl
    cases hx with
    | sl i o _ _ _ p ad c' hp hlc hc ha =>
    simp [capOf] at hc; subst hc
    exact ⟨_, by simp [Builtin.cap_, run_underlying hu, goInt], .int _ _⟩
  · simp at hl

theorem sim_clear (R : Rel W0 σ h w) {t ty : TypeId} {x : AV} {x' : Value} {h' : AHeap} (hx : VR σ x x') (ha : aclear P h t x = some h') :
    SimV W0 σ h w ((Builtin.clear_ #[t] ty #[x']).run P w) (.tup []) h' := by
  unfold aclear at ha
  split at ha
  · rename_i e n c ex hu
    simp at ha; subst ha
    cases hx
    refine SimV.still R (v' := .tuple #[]) ?_ (.tup _ _ .nil)
    simp [Builtin.clear_, run_underlying hu]
  · rename_i e i o n c ex hu
    split at ha
    · rename_i hn
      subst hn
      simp at ha; subst ha
      cases hx
      all_goals
        refine SimV.still R (v' := .tuple #[]) ?_ (.tup _ _ .nil)
        simp [Builtin.clear_, run_underlying hu]
    · rename_i hn
      split at ha
      · rename_i sz z hsz hz
        split at ha
        · rename_i zc hzc
          split at ha
          · rename_i hc
            cases hx with
            | sln => exact absurd rfl hn
            | sl _ _ _ _ _ p ad c' hp hlc hcc hadr =>
            obtain rfl := hadr.resolve_right (by omega)
            obtain ⟨zv, hz1, hz2⟩ := run_zeroA hz σ w
            have hzv := cells_vr hz2 hzc
            have hzs : zv.cells.size = sz := by rw [← Array.length_toList, ← hzv.length, hc.1]
            obtain ⟨w', e1, e2, e3⟩ := R.putAt (P := P) ha (by
              intro h0
              have h1 := congrArg List.length h0
              have : (zrep n zc).length = n * sz := by simp [zrep, hc.1]
              rw [this] at h1
              have : 0 < n * sz := Nat.mul_pos (by omega) (by omega)
              simp at h1; omega) hp (zrep_vr hzv n)
            have hrep := rep_list zv.cells (by omega) n
            have harr : (Builtin.zeroCells zv.cells n).toList = (List.replicate n zv.cells.toList).flatten := by rw [← hrep]; rfl
            refine ⟨σ, w', .tuple #[], ?_, e3, e2, .tup _ _ .nil⟩
            cases n with
            | zero => exact absurd rfl hn
            | succ n => simp only [Builtin.clear_, List.getElem?_toArray, List.getElem?_cons_zero, Sem.run_bind, run_underlying hu, Result.andThen_ok, hz1, harr, e1, Sem.run_pure]
          · simp at ha
        · simp at ha
      · simp at ha
  · simp at ha

/-! ### Conversions -/

theorem all_bytes {σ : Sig} : ∀ {cs : List AV} {vs : List Value}, VRs σ cs vs → cs.all isByte = true → ∃ ns : List Int, vs = ns.map (fun n => Value.int .u8 n) ∧ cs.map byteD = ns.map fun n => UInt8.ofNat n.toNat
  | _, _, .nil, _ => ⟨[], rfl, rfl⟩
  | _, _, .cons a v l m hv t, hm => by
    simp only [List.all_cons, Bool.and_eq_true] at hm
    obtain ⟨ns, rfl, h2⟩ := all_bytes t hm.2
    have h1 := hm.1
    unfold isByte at h1
    split at h1
    · rename_i n
      cases hv
      exact ⟨n :: ns, rfl, by simp [byteD, h2]⟩
    · simp at h1

theorem run_bytesToString_cells {ns : List Int} {a : Addr} {n : Nat} (hl : (loadCells a n).run P w = .ok (ns.map (fun n => Value.int .u8 n)).toArray w) {c : Nat} :
    (Conv.bytesToString (.slice (some a) n c)).run P w = .ok (.string ⟨(ns.map fun n => UInt8.ofNat n.toNat).toArray⟩) w := by
  have key : ∀ (ns : List Int) (s : ByteArray) (w : World), (forIn (ns.map (fun n => Value.int .u8 n)) s fun c (r : ByteArray) => (do
        let .int .u8 n := c | stuck "bytesToString: byte expected"
        pure (ForInStep.yield (r.push (UInt8.ofNat n.toNat))) : Sem (ForInStep ByteArray))).run P w = .ok ⟨s.data ++ (ns.map fun n => UInt8.ofNat n.toNat).toArray⟩ w := by
    intro ns
    induction ns with
    | nil => intro s w; cases s; simp
    | cons n ns ih =>
      intro s w
      simp only [List.map_cons, List.forIn_cons, Sem.run_bind, Sem.run_pure, Result.andThen_ok, ih]
      congr 1
      simp [ByteArray.push]
  simp only [Conv.bytesToString, Sem.run_bind, hl, Result.andThen_ok]
  have := key ns .empty w
  rw [← List.forIn_toArray] at this
  simp only [this, Result.andThen_ok, Sem.run_pure]
  have fold : ∀ (ns : List Int) (s : ByteArray), List.foldl (fun (b : ByteArray) (a : Int) => b.push (UInt8.ofNat a.toNat)) s ns = ⟨s.data ++ (ns.map fun n => UInt8.ofNat n.toNat).toArray⟩ := by
    intro ns
    induction ns with
    | nil => intro s; cases s; simp
    | cons n ns ih => intro s; rw [List.foldl_cons, ih]; simp [ByteArray.push]
  congr 2
  simp [ByteArray.empty, ByteArray.emptyWithCapacity, fold]
  rfl

theorem freeze_new (w : World) (c : Array Value) (t : TypeId) : (w.alloc (.cells c t)).freeze { block := w.heap.size, off := c.size } 1 = w.alloc (.cells c t (c.size, c.size + 1)) := by
  have : ((w.heap.push (Obj.cells c t)).modify w.heap.size fun
      | .cells c elem (lo, hi) => .cells c elem (if lo == hi then (c.size, c.size + 1) else (min lo c.size, max hi (c.size + 1)))
      | o => o) = w.heap.push (.cells c t (c.size, c.size + 1)) := by
    apply Array.ext_getElem?
    intro i
    rw [Array.getElem?_modify]
    by_cases hi : w.heap.size = i
    · subst hi; simp
    · simp [hi, Array.getElem?_push, Ne.symm hi]
  simp only [World.freeze, World.alloc]
  rw [if_neg (by decide)]
  congr 1
  apply Array.ext_getElem?
  intro i
  rw [Array.getElem?_modify]
  by_cases hi : w.heap.size = i
  · subst hi; simp
  · simp [hi, Array.getElem?_push, Ne.symm hi]

theorem freeze_other (w : World) (a : Addr) (n : Nat) {k : Nat} (hk : k ≠ a.block) : (w.freeze a n).heap[k]? = w.heap[k]? := by
  unfold World.freeze
  split
  · rfl
  · simp only [Array.getElem?_modify]
    rw [if_neg (Ne.symm hk)]
theorem freeze_size (w : World) (a : Addr) (n : Nat) : (w.freeze a n).heap.size = w.heap.size := by
  unfold World.freeze
  split
  · rfl
  · simp
theorem freeze_cells {w : World} (a : Addr) (n : Nat) {c : Array Value} {t : TypeId} {fr : Nat × Nat} (h : w.heap[a.block]? = some (.cells c t fr)) : ∃ fr', (w.freeze a n).heap[a.block]? = some (.cells c t fr') := by
  unfold World.freeze
  split
  · exact ⟨fr, h⟩
  · simp only [Array.getElem?_modify, h]
    simp only [if_true, Option.map_some]
    exact ⟨_, rfl⟩
theorem Below.freeze {B : Nat} {w0 w : World} (h : RowKit.Below B w0 w) {a : Addr} (ha : B ≤ a.block) (n : Nat) : RowKit.Below B w0 (w.freeze a n) := by
  refine h.trans ⟨?_, ?_, ?_, by rw [freeze_size]; exact Nat.le_refl _, fun k hk => freeze_other w a n (by omega)⟩
  all_goals (unfold World.freeze; split <;> rfl)

theorem run_stringToBytes (s : ByteArray) (e : TypeId) (w : World) : ∃ cap, s.size ≤ cap ∧ (Conv.stringToBytes e s).run P w =
    .ok (.slice (some ⟨w.heap.size, 0, none⟩) s.size cap)
      (w.drew.alloc (.cells ((s.data.map fun (b : UInt8) => Value.int .u8 b.toNat) ++ Array.replicate (cap - s.size) (Value.int .u8 0)) e (s.size + (cap - s.size), s.size + (cap - s.size) + 1))) := by
  have hq : (Question.appendCap s.size 0 e).forced = false := rfl
  refine ⟨s.size + w.tape w.drawn (.appendCap s.size 0 e) % (2 ^ 63 - s.size), by omega, ?_⟩
  have hcut : (Question.appendCap s.size 0 e).cut (w.tape w.drawn (.appendCap s.size 0 e)) = s.size + w.tape w.drawn (.appendCap s.size 0 e) % (2 ^ 63 - s.size) := rfl
  generalize hcap : s.size + w.tape w.drawn (.appendCap s.size 0 e) % (2 ^ 63 - s.size) = cap at hcut
  have hch : (choose (.appendCap s.size 0 e)).run P w = .ok cap w.drew := by
    rw [run_choose, hq, hcut]; rfl
  have hsz : ((s.data.map fun (b : UInt8) => Value.int .u8 b.toNat) ++ Array.replicate (cap - s.size) (Value.int .u8 0)).size = s.size + (cap - s.size) := by simp
  have hshape : (w.drew.alloc (.cells ((s.data.map fun (b : UInt8) => Value.int .u8 b.toNat) ++ Array.replicate (cap - s.size) (.int .u8 0)) e)).shape? w.heap.size = some (e, s.size + (cap - s.size)) := by
    have := World.alloc_heap_new w.drew (.cells ((s.data.map fun (b : UInt8) => Value.int .u8 b.toNat) ++ Array.replicate (cap - s.size) (Value.int .u8 0)) e)
    rw [World.size_drew] at this
    simp only [World.shape?, this, hsz]
  have hfr := freeze_new w.drew ((s.data.map fun (b : UInt8) => Value.int .u8 b.toNat) ++ Array.replicate (cap - s.size) (.int .u8 0)) e
  rw [hsz] at hfr
  simp only [Conv.stringToBytes, Sem.run_bind, hch, Result.andThen_ok, newRow, run_newObj_alloc, Sem.run_pure, markStringish, run_shape, World.size_drew, hshape, run_freeze]
  rw [← hfr]
  rfl

theorem sim_conv (R : Rel W0 σ h w) {s d : TypeId} {x v : AV} {x' : Value} {h' : AHeap} (hx : VR σ x x') (ha : aconv P h s d x = some (v, h')) :
    SimV W0 σ h w ((convert s d x').run P w) v h' := by
  unfold aconv at ha
  split at ha
  · rename_i k0 k1 k2 n hs hd
    simp at ha; obtain ⟨rfl, rfl⟩ := ha
    cases hx
    exact SimV.still R (by simp [convert, run_underlying hs, run_underlying hd, Conv.intToInt]) (.int _ _)
  · rename_i t hs hd
    simp at ha; obtain ⟨rfl, rfl⟩ := ha
    cases hx
    exact SimV.still R (by simp [convert, run_underlying hs, run_underlying hd]) (.str _)
  · rename_i e t hs hd
    split at ha
    · rename_i he
      split at ha
      case isFalse => simp at ha
      rename_i hne
      simp at ha; obtain ⟨rfl, rfl⟩ := ha
      cases hx with
      | str s' =>
      obtain ⟨cap, hcap, hrun⟩ := run_stringToBytes (P := P) s' e w
      have hpush := R.drew.push (.cells ((s'.data.map fun (b : UInt8) => Value.int .u8 b.toNat) ++ Array.replicate (cap - s'.size) (Value.int .u8 0)) e (s'.size + (cap - s'.size), s'.size + (cap - s'.size) + 1))
        (.cells (s'.data.toList.map fun b => AV.int .u8 b.toNat) 1 .own none) (cap - s'.size) rfl
        (.inr ⟨by intro h0; simp at h0; simp [h0] at hne, _, _, _, World.alloc_heap_new _ _, by
          have : ((((s'.data.map fun (b : UInt8) => Value.int .u8 b.toNat) ++ Array.replicate (cap - s'.size) (Value.int .u8 0)).toList.drop 0).take (s'.data.toList.map fun b => AV.int .u8 b.toNat).length) = s'.data.toList.map fun b => Value.int .u8 b.toNat := by
            rw [List.drop_zero]; simp
          rw [this]; exact VRs.map_of _ _ _ fun b _ => .int _ _, fun _ => ⟨fun j _ hj => by simp at hj ⊢; omega, by simp⟩⟩)
      refine ⟨_, _, _, ?_, (Stp.drew σ h w).trans hpush.2, hpush.1, .sl _ _ _ _ _ ⟨w.heap.size, 0, cap - s'.size⟩ _ cap (R.newAt _) (by simpa using hcap) (by simp [capOf]; omega) (.inl (by simp; rfl))⟩
      · simp only [convert, Sem.run_bind, run_underlying hs, run_underlying hd, Result.andThen_ok, run_underlying he, hrun]
        simp
    · simp at ha
  · rename_i e0 e i o n c ex hs hd
    split at ha
    case h_2 => simp at ha
    rename_i vs esz he hb
    split at ha
    case isFalse => simp at ha
    rename_i hc
    obtain ⟨rfl, hn, hv⟩ := hc
    rw [hs] at hd
    cases hd
    simp only [Option.some.injEq, Prod.mk.injEq] at ha
    obtain ⟨rfl, rfl⟩ := ha
    cases hx with
    | sln _ _ p hp hcc => omega
    | sl _ _ _ _ _ p ad c' hp hlc hcc hadr =>
    have had : ad = ⟨p.blk, p.off + o, none⟩ := by
      rcases hadr with h1 | h1
      · exact h1
      · omega
    subst had
    have hne : vs ≠ [] := by rintro rfl; simp at hv
    have hob := R.obj hb hp
    rcases hob with ⟨h0, _⟩ | ⟨_, cc, t, fr, h1, h2, _⟩
    · exact absurd h0 hne
    have M := R.modify (w' := w.freeze ⟨p.blk, cc.size, none⟩ 1) (b' := .cells vs esz .ro none) hb hp (by simp [ABlk.mine, hne]) rfl rfl (fun k hk => freeze_other w _ _ hk) (freeze_size w _ _) (Below.freeze R.below (R.own hb hp (by simp [ABlk.mine, hne])) _)
      (by
        obtain ⟨fr', h3⟩ := freeze_cells (w := w) ⟨p.blk, cc.size, none⟩ 1 h1
        exact .inr ⟨hne, cc, t, fr', h3, h2, fun e => by cases e⟩)
    refine ⟨σ, _, _, ?_, M.2, M.1, .sl _ _ _ _ _ _ _ _ hp hlc hcc (.inl rfl)⟩
    simp [convert, run_underlying hs, run_underlying he, markStringish, World.shape?, h1]
  · rename_i e base n c ex hs hd
    split at ha
    · rename_i he
      split at ha
      · simp at ha; obtain ⟨rfl, rfl⟩ := ha
        cases hx
        exact SimV.still R (by simp [convert, run_underlying hs, run_underlying hd, run_underlying he, Conv.bytesToString]) (.str .empty)
      · simp at ha
    · rename_i i o he
      simp only [Option.bind_eq_some_iff] at ha
      obtain ⟨cs, hcs, ha⟩ := ha
      split at ha
      case isFalse => simp at ha
      rename_i hm
      simp only [Option.some.injEq, Prod.mk.injEq] at ha
      obtain ⟨rfl, rfl⟩ := ha
      cases hx with
      | sln _ _ p hp hcc =>
        obtain ⟨vs, h1, h2, _⟩ := R.cellsAt hcs hp
        have : vs = [] := List.eq_nil_of_length_eq_zero h1
        subst this
        have hcs0 : cs = [] := List.eq_nil_of_length_eq_zero (by rw [h2.length]; rfl)
        subst hcs0
        exact SimV.still R (by simp [convert, run_underlying hs, run_underlying hd, run_underlying he, Conv.bytesToString]) (.str .empty)
      | sl _ _ _ _ _ p ad c' hp hlc hcc hadr =>
      have hload : ∃ ns : List Int, (loadCells ad n).run P w = .ok (ns.map (fun n => Value.int .u8 n)).toArray w ∧ cs.map byteD = ns.map fun n => UInt8.ofNat n.toNat := by
        by_cases hn : n = 0
        · subst hn
          obtain ⟨vs, h1, h2, _⟩ := R.cellsAt hcs hp
          have : vs = [] := List.eq_nil_of_length_eq_zero h1
          subst this
          obtain ⟨ns, e1, e2⟩ := all_bytes h2 hm
          have : ns = [] := by simpa using e1.symm
          subst this
          exact ⟨[], by simp [loadCells, loadCellsFrom], e2⟩
        · obtain rfl := hadr.resolve_right (by omega)
          obtain ⟨vs, h1, h2, _⟩ := R.loadCells (P := P) hcs hp
          obtain ⟨ns, rfl, e2⟩ := all_bytes h2 hm
          exact ⟨ns, h1, e2⟩
      obtain ⟨ns, h1, h2⟩ := hload
      rw [h2]
      refine SimV.still R (v' := .string ⟨(ns.map fun n => UInt8.ofNat n.toNat).toArray⟩) ?_ (by simpa using VR.str (σ := σ) ⟨(ns.map fun n => UInt8.ofNat n.toNat).toArray⟩)
      simp only [convert, Sem.run_bind, run_underlying hs, run_underlying hd, Result.andThen_ok, run_underlying he]
      exact run_bytesToString_cells h1
    · simp at ha
  · simp at ha

end Go.Abs
