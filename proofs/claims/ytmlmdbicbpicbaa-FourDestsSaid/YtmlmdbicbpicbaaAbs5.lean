/- Operation by operation, second part: slicing, building, new blocks, append, copy. -/
import Derived.Test.YtmlmdbicbpicbaaAbs4
set_option autoImplicit false
set_option linter.unusedVariables false
set_option linter.unusedSimpArgs false
namespace Go.Abs
variable {P : Program} {W0 : World} {σ : Sig} {h : AHeap} {w : World}

def IntR : Option Int → Option Value → Prop
  | none, none => True
  | some n, some v => ∃ k, v = .int k n
  | _, _ => False

theorem abounds_le {len cap : Nat} {l hh : Option Int} {a b : Nat} (hb : abounds len cap l hh = some (a, b)) (hl : len ≤ cap) : a ≤ b ∧ b ≤ cap := by
  unfold abounds at hb
  split at hb
  · split at hb
    · split at hb
      · split at hb
        · simp at hb; omega
        · simp at hb
      · simp at hb; omega
    · simp at hb
  · split at hb
    · split at hb
      · simp at hb; omega
      · simp at hb
    · simp at hb; omega

theorem aoptInt_vr {x : Option AV} {y : Option Value} {i : Option Int} (hxy : OptR σ x y) (hi : aoptInt x = some i) :
    IntR i y := by
  cases x with
  | none =>
    cases y with
    | none => simp [aoptInt] at hi; subst hi; trivial
    | some y => exact hxy.elim
  | some x =>
    cases y with
    | none => exact hxy.elim
    | some y =>
      cases x <;> simp [aoptInt] at hi
      subst hi
      cases hxy
      exact ⟨_, rfl⟩

theorem extract_list (s : ByteArray) (a b : Nat) (h1 : a ≤ b) (h2 : b ≤ s.size) : (s.extract a b).data.toList = (s.data.toList.take b).drop a := by
  simp [List.drop_take]

theorem sim_slice3 {len cap cap' : Nat} {lo : Option Value} {l : Option Int} {n c : Int} {a b : Nat} (hcap : cap ≤ cap')
    (hlo : IntR l lo) {kh kc : IntKind}
    (hc : 0 ≤ c ∧ c ≤ (cap : Int)) (hb : abounds len c.toNat l (some n) = some (a, b)) (w : World) :
    (Instr.sliceBounds true len cap' lo (some (.int kh n)) (some (.int kc c))).run P w = .ok (a, b, c.toNat) w := by
  have h1 : 0 ≤ c ∧ c ≤ (cap' : Int) := ⟨hc.1, by omega⟩
  simp only [abounds] at hb
  split at hb
  · rename_i hn
    cases l with
    | none =>
      cases lo with
      | some y => exact hlo.elim
      | none =>
      simp at hb
      obtain ⟨rfl, rfl⟩ := hb
      simp only [Instr.sliceBounds, Instr.sliceBound, asIntOf, Sem.run_bind, Sem.run_pure, Result.andThen_ok, h1, hn, and_self, if_true]
    | some x =>
      cases lo with
      | none => exact hlo.elim
      | some y =>
      obtain ⟨k, rfl⟩ := hlo
      simp only at hb
      split at hb
      · rename_i hx
        simp at hb
        obtain ⟨rfl, rfl⟩ := hb
        have h2 : 0 ≤ x ∧ x ≤ (n.toNat : Int) := ⟨hx.1, by omega⟩
        simp only [Instr.sliceBounds, Instr.sliceBound, asIntOf, Sem.run_bind, Sem.run_pure, Result.andThen_ok, h1, hn, h2, and_self, if_true]
      · simp at hb
  · simp at hb

theorem abounds_le0 {len cap : Nat} {lo hi : Option Int} {a b : Nat} (h : abounds len cap lo hi = some (a, b)) : a ≤ b ∧ (hi.isNone = true → b = len) := by
  unfold abounds at h
  split at h
  · split at h
    · split at h
      · split at h
        · simp at h; simp; omega
        · simp at h
      · simp at h; simp; omega
    · simp at h
  · split at h
    · split at h
      · simp at h; simp; omega
      · simp at h
    · simp at h; simp; omega

theorem sim_slice {t : TypeId} {x v : AV} {x' : Value} {lo hi mx : Option AV} {lo' hi' mx' : Option Value} (hx : VR σ x x') (hlo : OptR σ lo lo') (hhi : OptR σ hi hi') (hmx : OptR σ mx mx')
    (hs : aslice P t x lo hi mx = some v) (w : World) : ∃ v', (Instr.sliceAt t x' lo' hi' mx').run P w = .ok v' w ∧ VR σ v v' := by
  unfold aslice at hs
  split at hs
  · rename_i l hh m hl0 hh0 hm0
    have hlv := aoptInt_vr hlo hl0
    have hmv := aoptInt_vr hmx hm0
    have hhv := aoptInt_vr hhi hh0
    split at hs
    · rename_i s hu
      split at hs
      · cases mx' with
        | some y => exact hmv.elim
        | none =>
        simp only [Option.map_eq_some_iff] at hs
        obtain ⟨⟨a, b⟩, hab, rfl⟩ := hs
        cases hx with
        | str s' =>
        have hsz : s'.data.toList.length = s'.size := by simp
        rw [hsz] at hab
        have hle := abounds_le hab (Nat.le_refl _)
        have hb := sim_bounds (P := P) (isS := false) (Nat.le_refl _) hlo hhi hl0 hh0 hab w
        refine ⟨.string (s'.extract a b), ?_, ?_⟩
        · simp [Instr.sliceAt, run_underlying hu, Instr.slice, hb]
        · rw [← extract_list s' a b hle.1 hle.2]; exact .str _
      · simp at hs
    · rename_i e base len cap ex hu
      split at hs
      · rename_i sz hsz
        split at hs
        · -- two indices
          cases mx' with
          | some y => exact hmv.elim
          | none =>
          simp only [Option.map_eq_some_iff] at hs
          obtain ⟨⟨a, b⟩, hab, rfl⟩ := hs
          cases hx with
          | sl0 =>
            have hz0 : capOf 0 0 ex = 0 := by cases ex <;> rfl
            have hle := abounds_le hab (Nat.zero_le _)
            rw [hz0] at hab
            have hb := sim_bounds (P := P) (isS := true) (Nat.le_refl 0) hlo hhi hl0 hh0 hab w
            have hb0 : b = 0 := by omega
            have ha0 : a = 0 := by omega
            subst hb0; subst ha0
            refine ⟨.slice none 0 0, ?_, ?_⟩
            · simp [Instr.sliceAt, run_underlying hu, Instr.slice, hb, run_sizeA hsz]
            · have : roomOf 0 0 0 hh.isNone 0 ex = 0 := by cases ex <;> cases hh.isNone <;> rfl
              simp only [this]; exact .sl0 _
          | sln i o p hp hz =>
            have hle := abounds_le hab (Nat.zero_le _)
            have hz0 : capOf 0 0 false = 0 := rfl
            rw [hz0] at hab hle
            have hb := sim_bounds (P := P) (isS := true) (Nat.le_refl 0) hlo hhi hl0 hh0 hab w
            have hb0 : b = 0 := by omega
            have ha0 : a = 0 := by omega
            subst hb0; subst ha0
            refine ⟨.slice none 0 0, ?_, ?_⟩
            · simp [Instr.sliceAt, run_underlying hu, Instr.slice, hb, run_sizeA hsz]
            · have : roomOf 0 0 0 hh.isNone 0 false = 0 := by cases hh.isNone <;> rfl
              simp only [Nat.sub_self, this]
              exact .sln i _ p hp hz
          | sl i o _ _ _ p ad c' hp hlc hc ha =>
            have hcl := capOf_le hlc hc
            have hcap := hcl.2
            have hle := abounds_le hab hcl.1
            have hb := sim_bounds (P := P) (isS := true) hcap hlo hhi hl0 hh0 hab w
            have hroom := capOf_room hle.1 hle.2 (full := hh.isNone) fun h => (abounds_le0 hab).2 h
            refine ⟨.slice (some (if c' = a then ad else ad.add (a * sz))) (b - a) (c' - a), ?_, ?_⟩
            · simp only [Instr.sliceAt, Sem.run_bind, run_underlying hu, Result.andThen_ok, Instr.slice, hb, run_sizeA hsz, Sem.run_pure]
              split <;> rfl
            · refine .sl i (o + a * sz) (b - a) _ ex p _ _ hp (by omega) (by rw [hroom]; cases ex <;> simp [capOf] at hc hle ⊢ <;> omega) ?_
              by_cases e0 : c' = a
              · right; omega
              · rcases ha with rfl | h0
                · left; rw [if_neg e0, addr_add, Nat.add_assoc]
                · right; omega
        · -- three
          rename_i c n
          cases mx' with
          | none => exact hmv.elim
          | some ym =>
          cases hi' with
          | none => exact hhv.elim
          | some yh =>
          obtain ⟨kc, rfl⟩ := hmv
          obtain ⟨kh, rfl⟩ := hhv
          split at hs
          · rename_i hc0
            obtain ⟨hc00, hc01, hsn⟩ := hc0
            have hc0 := And.intro hc00 hc01
            simp only [Option.map_eq_some_iff] at hs
            obtain ⟨⟨a, b⟩, hab, rfl⟩ := hs
            have hle2 : a ≤ b ∧ b ≤ c.toNat := by
              simp only [abounds] at hab
              split at hab
              · split at hab
                · split at hab
                  · simp at hab; omega
                  · simp at hab
                · simp at hab; omega
              · simp at hab
            cases hx with
            | sl0 =>
              have hz0 : capOf 0 0 ex = 0 := by cases ex <;> rfl
              have hct : c.toNat = 0 := by omega
              have hcap : capOf 0 0 ex ≤ 0 := by omega
              have hb := sim_slice3 (P := P) hcap hlv (kh := kh) (kc := kc) hc0 hab w
              have hb0 : b = 0 := by omega
              have ha0 : a = 0 := by omega
              subst hb0; subst ha0
              refine ⟨.slice none 0 0, ?_, ?_⟩
              · simp [Instr.sliceAt, run_underlying hu, Instr.slice, hb, run_sizeA hsz, hct]
              · rw [hct]; exact .sl0 true
            | sln i o p hp hz => simp [sureNN] at hsn
            | sl i o _ _ _ p ad c' hp hlc hc ha =>
              have hcap := (capOf_le hlc hc).2
              have hb := sim_slice3 (P := P) hcap hlv (kh := kh) (kc := kc) hc0 hab w
              refine ⟨.slice (some (if c.toNat = a then ad else ad.add (a * sz))) (b - a) (c.toNat - a), ?_, ?_⟩
              · simp only [Instr.sliceAt, Sem.run_bind, run_underlying hu, Result.andThen_ok, Instr.slice, hb, run_sizeA hsz, Sem.run_pure]
                split <;> rfl
              · refine .sl i (o + a * sz) (b - a) (c.toNat - a) true p _ _ hp (by omega) (by simp [capOf]) ?_
                by_cases e0 : c.toNat = a
                · right; omega
                · rcases ha with rfl | h0
                  · left; rw [if_neg e0, addr_add, Nat.add_assoc]
                  · right; omega
          · simp at hs
        · simp at hs
      · simp at hs
    · rename_i n e i o hu
      split at hs
      · rename_i sz hsz
        cases mx' with
        | some y => exact hmv.elim
        | none =>
        simp only [Option.map_eq_some_iff] at hs
        obtain ⟨⟨a, b⟩, hab, rfl⟩ := hs
        cases hx with
        | ptr _ _ p hp =>
        have hle := abounds_le hab (Nat.le_refl _)
        have hb := sim_bounds (P := P) (isS := false) (Nat.le_refl _) hlo hhi hl0 hh0 hab w
        refine ⟨.slice (some (if n = a then ⟨p.blk, p.off + o, none⟩ else (⟨p.blk, p.off + o, none⟩ : Addr).add (a * sz))) (b - a) (n - a), ?_, ?_⟩
        · simp only [Instr.sliceAt, Sem.run_bind, run_underlying hu, Result.andThen_ok, Instr.sureAddr, hb, run_sizeA hsz, Sem.run_pure]
        · refine .sl i (o + a * sz) (b - a) (n - a) true p _ _ hp (by omega) (by simp [capOf]) ?_
          by_cases e0 : n = a
          · right; omega
          · left; rw [if_neg e0, addr_add, Nat.add_assoc]
      · simp at hs
    · simp at hs
  · simp at hs

/-! ### Building -/

theorem putV_array : ∀ (ys : List Value) (cs : Array Value) (off : Nat), ((ys.toArray.zipIdx.foldl (fun (cs : Array Value) (x : Value × Nat) => cs.setIfInBounds (off + x.2) x.1) cs)).toList = putV cs.toList off ys := by
  have gen : ∀ (ys : List Value) (k : Nat) (cs : Array Value) (off : Nat), ((ys.zipIdx k).foldl (fun (cs : Array Value) (x : Value × Nat) => cs.setIfInBounds (off + x.2) x.1) cs).toList = putV cs.toList (off + k) ys := by
    intro ys
    induction ys with
    | nil => intro k cs off; rfl
    | cons y ys ih =>
      intro k cs off
      simp only [List.zipIdx_cons, List.foldl_cons, putV]
      rw [ih]
      simp [Nat.add_assoc]
  intro ys cs off
  have := gen ys 0 cs off
  simp only [Nat.add_zero] at this
  rw [← this]
  simp [Array.zipIdx, List.mapIdx_eq_zipIdx_map]
theorem sim_fill {place : Nat → Option (Nat × Nat)} : ∀ {ps : List (Nat × AV)} {qs : List (Nat × Value)} {cs : List AV} {ds : List Value} {r : List AV},
    ps.length = qs.length → (∀ (j : Nat) x y, ps[j]? = some x → qs[j]? = some y → x.1 = y.1 ∧ VR σ x.2 y.2) → VRs σ cs ds → afill place cs ps = some r →
    ∃ rs : List Value, Instr.fill place ds.toArray qs = some rs.toArray ∧ VRs σ r rs
  | [], [], cs, ds, r, _, _, hc, hr => by
    simp [afill] at hr; subst hr
    exact ⟨ds, by simp [Instr.fill], hc⟩
  | [], _ :: _, _, _, _, hl, _, _, _ => by simp at hl
  | _ :: _, [], _, _, _, hl, _, _, _ => by simp at hl
  | (i, v) :: ps, (i', v') :: qs, cs, ds, r, hl, hp, hc, hr => by
    obtain ⟨e1, e2⟩ := hp 0 _ _ rfl rfl
    simp at e1 e2
    subst e1
    unfold afill at hr
    split at hr
    · rename_i off sz xs hpl hxs
      split at hr
      · rename_i hcond
        have hv := cells_vr e2 hxs
        have hsz : v'.cells.size = sz := by rw [← Array.length_toList, ← hv.length, hcond.1]
        have hds : ds.length = cs.length := hc.length.symm
        obtain ⟨rs, h1, h2⟩ := sim_fill (ps := ps) (qs := qs) (by simpa using hl) (fun j x y hx hy => hp (j + 1) x y (by simpa using hx) (by simpa using hy)) (hv.put off hc) hr
        refine ⟨rs, ?_, h2⟩
        have hput := putV_array v'.cells.toList ds.toArray off
        rw [Array.toArray_toList] at hput
        have : (v'.cells.zipIdx.foldl (fun (cs : Array Value) (x : Value × Nat) => cs.setIfInBounds (off + x.2) x.1) ds.toArray) = (putV ds off v'.cells.toList).toArray := by
          apply Array.ext'; rw [hput]
        unfold Instr.fill
        simp only [hpl, hsz]
        rw [if_neg (by simp; omega)]
        rw [this]
        exact h1
      · simp at hr
    · simp at hr

theorem mapM_places {F : Field → Sem (Nat × Nat)} (hF : ∀ f w n, sizeA P f.type = some n → (F f).run P w = .ok (f.offset, n) w) (w : World) : ∀ (l : List Field), (∀ f ∈ l, (sizeA P f.type).isSome = true) →
    (l.mapM F).run P w = .ok (l.map fun f => (f.offset, (sizeA P f.type).getD 0)) w
  | [], _ => by simp
  | f :: l, hh => by
    have hf := hh f (by simp)
    obtain ⟨n, hn⟩ := Option.isSome_iff_exists.1 hf
    rw [List.mapM_cons]
    simp only [Sem.run_bind, hF f w n hn, Result.andThen_ok, mapM_places hF w l (fun g hg => hh g (by simp [hg])), Sem.run_pure, List.map_cons, hn, Option.getD_some]

theorem fill_congr {p q : Nat → Option (Nat × Nat)} : ∀ (qs : List (Nat × Value)) (ds : Array Value), (∀ x ∈ qs, p x.1 = q x.1) → Instr.fill p ds qs = Instr.fill q ds qs
  | [], _, _ => rfl
  | (i, v) :: qs, ds, hh => by
    have h0 : p i = q i := hh (i, v) (by simp)
    unfold Instr.fill
    rw [h0]
    split
    · rfl
    · split
      · rfl
      · exact fill_congr qs _ fun x hx => hh x (by simp [hx])

def PartsR (σ : Sig) (ps : List (Nat × AV)) (qs : List (Nat × Value)) : Prop :=
  ps.length = qs.length ∧ ∀ (j : Nat) x y, ps[j]? = some x → qs[j]? = some y → x.1 = y.1 ∧ VR σ x.2 y.2

theorem afill_places {place : Nat → Option (Nat × Nat)} : ∀ {ps : List (Nat × AV)} {cs r : List AV}, afill place cs ps = some r → ∀ x ∈ ps, (place x.1).isSome = true
  | [], _, _, _, _, hx => by simp at hx
  | (i, v) :: ps, cs, r, hr, x, hx => by
    unfold afill at hr
    split at hr
    · rename_i off sz xs hpl hxs
      split at hr
      · rcases List.mem_cons.1 hx with rfl | hx
        · simp [hpl]
        · exact afill_places hr x hx
      · simp at hr
    · simp at hr

theorem PartsR.mem {ps : List (Nat × AV)} {qs : List (Nat × Value)} (hp : PartsR σ ps qs) {y : Nat × Value} (hy : y ∈ qs) : ∃ x ∈ ps, x.1 = y.1 := by
  obtain ⟨i, hi, rfl⟩ := List.mem_iff_getElem.1 hy
  have hl : i < ps.length := by rw [hp.1]; exact hi
  exact ⟨ps[i], List.getElem_mem hl, (hp.2 i _ _ (List.getElem?_eq_getElem hl) (List.getElem?_eq_getElem hi)).1⟩

theorem sim_build {t : TypeId} {ps : List (Nat × AV)} {qs : Array (Nat × Value)} {v : AV} (hp : PartsR σ ps qs.toList) (hb : abuild P t ps = some v) (w : World) :
    ∃ v', (Instr.build t qs).run P w = .ok v' w ∧ VR σ v v' := by
  unfold abuild at hb
  split at hb
  · simp at hb
  · rename_i z hz
    obtain ⟨zv, hz1, hz2⟩ := run_zeroA hz σ w
    split at hb
    · rename_i zc fs hzc hu
      split at hb
      rotate_left
      · simp at hb
      rename_i hall0
      have hall : ∀ f ∈ fs.toList, (sizeA P f.type).isSome = true := fun f hf => List.all_eq_true.1 hall0 f hf
      simp only [Option.map_eq_some_iff] at hb
      obtain ⟨cs, hcs, rfl⟩ := hb
      have hzv := cells_vr hz2 hzc
      obtain ⟨rs, h1, h2⟩ := sim_fill hp.1 hp.2 hzv hcs
      refine ⟨.agg rs.toArray, ?_, .agg _ _ h2⟩
      · have hm := mapM_places (P := P) (F := fun f => do pure (f.offset, ← sizeOf f.type)) (fun f w n hn => by simp [run_sizeA hn]) w fs.toList hall
        have hm' : (fs.mapM fun f => (do pure (f.offset, ← sizeOf f.type) : Sem (Nat × Nat))).run P w = .ok ((fs.toList.map fun f => (f.offset, (sizeA P f.type).getD 0)).toArray) w := by
          rw [Array.mapM_eq_mapM_toList]
          simp only [Sem.run_map, hm, Result.andThen_ok]
        have hfill : Instr.fill ((fs.toList.map fun f => (f.offset, (sizeA P f.type).getD 0)).toArray[·]?) zv.cells qs.toList = some rs.toArray := by
          rw [← h1, Array.toArray_toList]
          refine fill_congr _ _ fun y hy => ?_
          obtain ⟨x, hx, e⟩ := hp.mem hy
          have := afill_places hcs x hx
          rw [← e]
          simp only [List.getElem?_toArray, List.getElem?_map, Array.getElem?_toList]
          cases hf : fs[x.1]? with
          | none => simp [hf] at this
          | some f =>
            simp only [hf, Option.bind_some, Option.isSome_map] at this
            obtain ⟨n, hn⟩ := Option.isSome_iff_exists.1 this
            simp [hn]
        simp only [Instr.build, Sem.run_bind, hz1, Result.andThen_ok, run_underlying hu]
        simp only [hm', Result.andThen_ok, hfill]
        rfl
    · rename_i zc n e hzc hu
      split at hb
      · rename_i sz hsz
        simp only [Option.map_eq_some_iff] at hb
        obtain ⟨cs, hcs, rfl⟩ := hb
        have hzv := cells_vr hz2 hzc
        obtain ⟨rs, h1, h2⟩ := sim_fill hp.1 hp.2 hzv hcs
        refine ⟨.agg rs.toArray, ?_, .agg _ _ h2⟩
        rw [Array.toArray_toList] at h1
        simp only [Instr.build, Sem.run_bind, hz1, Result.andThen_ok, run_underlying hu, run_sizeA hsz, h1]
        rfl
      · simp at hb
    · simp at hb

end Go.Abs
