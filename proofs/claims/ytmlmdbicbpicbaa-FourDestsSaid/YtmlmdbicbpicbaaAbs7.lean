/- append, whole. -/
import Derived.Test.YtmlmdbicbpicbaaAbs6
set_option autoImplicit false
set_option linter.unusedVariables false
set_option linter.unusedSimpArgs false
namespace Go.Abs

theorem putV_append (ys L : List Value) (a : Nat) (hl : L.length = a + ys.length) : putV L a ys = L.take a ++ ys := by
  have h1 := putV_take ys L a a (Nat.le_refl _)
  have h2 := putV_drop ys L a (by omega)
  have h3 : ((putV L a ys).drop a).length = ys.length := by rw [List.length_drop, putV_length]; omega
  rw [List.take_of_length_le (by omega)] at h2
  rw [← h1]
  conv => lhs; rw [← List.take_append_drop a (putV L a ys), h2]

variable {P : Program} {W0 : World} {σ : Sig} {h : AHeap} {w : World}

theorem sim_append (R : Rel W0 σ h w) {ats : Array TypeId} {ty : TypeId} {s x v : AV} {s' x' : Value} {h' : AHeap} (hs : VR σ s s') (hx : VR σ x x') (ha : aappend P h ats.toList s x = some (v, h')) :
    SimV W0 σ h w ((Builtin.append_ ats ty #[s', x']).run P w) v h' := by
  unfold aappend at ha
  split at ha
  · rename_i e base len cap ex he0
    simp only [Option.bind_eq_some_iff] at he0
    obtain ⟨t, ht, he⟩ := he0
    have h0 : ats[0]? = some t := by rw [← Array.getElem?_toList]; exact ht
    have hu := sliceElem_some he
    split at ha
    · rename_i sz1 by_ hsz hby
      simp only [Nat.succ_eq_add_one] at hsz ha
      have hby0 := hby
      unfold bytesA at hby0
      simp only [Option.map_eq_some_iff] at hby0
      obtain ⟨ti, hti, rfl⟩ := hby0
      simp only [Option.bind_eq_some_iff] at ha
      obtain ⟨⟨n, new⟩, hsrc, ha⟩ := ha
      rw [Array.getElem?_toList] at hsrc
      simp only at ha
      split at ha
      · rename_i hbig
        obtain ⟨hbg, hzs, hmax⟩ := hbig
        simp only [zcells, Option.map_eq_some_iff, Option.bind_eq_some_iff] at hzs
        obtain ⟨zc, ⟨z, hz, hzc⟩, hzl⟩ := hzs
        have hzrun : ∃ zv, (∀ w, (zeroValue e).run P w = .ok zv w) ∧ VR σ z zv := by
          unfold zeroA at hz
          simp only [Option.map_eq_some_iff, Option.bind_eq_some_iff] at hz
          obtain ⟨v, ⟨i, hi, hv⟩, rfl⟩ := hz
          exact ⟨v, fun w => by simp [zeroValue, typeInfo, hi, hv], ofV_vr σ v⟩
        obtain ⟨zv, hz1, hz2⟩ := hzrun
        have hzsz : zv.cells.size = sz1 + 1 := by rw [← Array.length_toList, ← (cells_vr hz2 hzc).length, hzl]
        have hzlen : ∀ k, (Builtin.zeroCells zv.cells k).size = k * (sz1 + 1) := fun k => by simp [Builtin.zeroCells, hzsz]
        -- a new block, whatever is told of who shares it
        have fresh : ∀ {h1 : AHeap} {old : List AV} {old' : List Value} {c' : Nat} {a : Option Addr} (par : Option Nat), Rel W0 σ h1 w → h1.length = h.length → VRs σ old old' → OldAt P w.drew (sz1 + 1) len old' a → old'.length = len * (sz1 + 1) → c' < len + n →
            ∃ σ' w' v', (Builtin.append_ ats ty #[.slice a len c', x']).run P w = .ok v' w' ∧ Stp σ h1 w σ' (h1 ++ [.cells (old ++ new) (sz1 + 1) .own par]) w' ∧ Rel W0 σ' (h1 ++ [.cells (old ++ new) (sz1 + 1) .own par]) w' ∧
              VR σ' (.sl (some (h.length, 0)) (len + n) 0 false) v' := by
          intro h1 old old' c' a par R1 hlen ho hoa hol hc'
          obtain ⟨new', hn1, hn2, hn3⟩ := sim_src R.drew hx hsz hby hsrc
          obtain ⟨cap', hcap, hrun⟩ := app_grow (ty := ty) h0 hu hsz hti hz1 hn3 hoa hc' hbg hmax
          have hv : VRs σ (old ++ new) (old' ++ new') := ho.append hn1
          have hvl := hv.length
          have hxl : (old ++ new).length = (len + n) * (sz1 + 1) := by rw [hvl, List.length_append, hol, hn2, Nat.add_mul]
          have hne : old ++ new ≠ [] := by
            intro h0
            rw [h0] at hxl
            have : 0 < (len + n) * (sz1 + 1) := Nat.mul_pos (by omega) (by omega)
            simp at hxl; omega
          have hcs : (old'.toArray ++ new'.toArray ++ Builtin.zeroCells zv.cells (cap' - (len + n))).size = (len + n) * (sz1 + 1) + (cap' - (len + n)) * (sz1 + 1) := by
            simp only [Array.size_append, List.size_toArray, hol, hn2, hzlen, Nat.add_mul]
          have hpush := R1.drew.push (.cells (old'.toArray ++ new'.toArray ++ Builtin.zeroCells zv.cells (cap' - (len + n))) e) (.cells (old ++ new) (sz1 + 1) .own par) (cap' - (len + n)) rfl
            (.inr ⟨hne, _, _, (0, 0), World.alloc_heap_new _ _, by
              have : ((old'.toArray ++ new'.toArray ++ Builtin.zeroCells zv.cells (cap' - (len + n))).toList.drop 0).take (old ++ new).length = old' ++ new' := by
                rw [List.drop_zero]
                simp only [Array.toList_append, List.append_assoc]
                rw [← List.append_assoc, List.take_append_of_le_length (by rw [hvl]; exact Nat.le_refl _), hvl, List.take_length]
              rw [this]; exact hv.grow _, fun _ => ⟨fun j _ _ => by simp, by simp only [hxl, hcs]; omega⟩⟩)
          refine ⟨_, _, _, hrun, (Stp.drew σ h1 w).trans hpush.2, hpush.1, .sl _ _ _ _ _ ⟨w.heap.size, 0, cap' - (len + n)⟩ _ _ ?_ hcap (by simp [capOf]; omega) (.inl (by simp))⟩
          rw [← hlen]; exact R1.newAt _
        -- nothing was there, and no room
        have empty : len = 0 → (s' = .slice none 0 0 ∨ ∃ ad, s' = .slice (some ad) 0 0) → h' = h ++ [.cells new (sz1 + 1) .own none] → v = .sl (some (h.length, 0)) n 0 false → SimV W0 σ h w ((Builtin.append_ ats ty #[s', x']).run P w) v h' := by
          intro hl0 hs0 e1 e2
          subst hl0 e1 e2
          by_cases hn0 : n = 0
          · subst hn0
            obtain ⟨new', hn1, hn2, hn3⟩ := sim_src R hx hsz hby hsrc
            have hnn : new' = [] := List.eq_nil_of_length_eq_zero (by simpa using hn2)
            subst hnn
            have hnw : new = [] := List.eq_nil_of_length_eq_zero (by rw [hn1.length]; rfl)
            subst hnw
            have A := R.pushVoid (sz1 + 1) none ⟨w.heap.size, 0, 0⟩ rfl
            rcases hs0 with rfl | ⟨ad, rfl⟩
            · exact ⟨_, w, _, app_fit (w' := w) h0 hu hsz hn3 (Nat.le_refl _) rfl, A.2, A.1, .sln _ _ _ (R.newAt _) rfl⟩
            · exact ⟨_, w, _, app_fit (w' := w) h0 hu hsz hn3 (Nat.le_refl _) (by simp [AtBase, storeCells]), A.2, A.1, .sl _ _ _ _ _ _ _ _ (R.newAt _) (Nat.le_refl _) rfl (.inr rfl)⟩
          · rcases hs0 with rfl | ⟨ad, rfl⟩
            · obtain ⟨σ', w', v', f1, f2, f3, f4⟩ := fresh (old := []) (old' := []) (a := none) (c' := 0) none R rfl .nil rfl (by simp) (by omega)
              simp only [Nat.zero_add, List.nil_append] at f2 f3 f4
              exact ⟨σ', w', v', f1, f2, f3, f4⟩
            · obtain ⟨σ', w', v', f1, f2, f3, f4⟩ := fresh (old := []) (old' := []) (a := some ad) (c' := 0) none R rfl .nil (by simp [OldAt, loadCells, loadCellsFrom]) (by simp) (by omega)
              simp only [Nat.zero_add, List.nil_append] at f2 f3 f4
              exact ⟨σ', w', v', f1, f2, f3, f4⟩
        -- in place
        have inplace : ∀ {i o r : Nat} {p : Plc} {ad : Addr} {c' : Nat}, s' = .slice (some ad) len c' → σ[i]? = some p → (ad = ⟨p.blk, p.off + o, none⟩ ∨ c' = 0) → len + n ≤ c' → c' = capOf (len + n) r ex + (if ex then 0 else p.spare) →
            (if n = 0 then some (AV.sl (some (i, o)) (len + n) r ex, h) else (putAt h i (o + len * (sz1 + 1)) new).map fun h' => (.sl (some (i, o)) (len + n) r ex, h')) = some (v, h') → SimV W0 σ h w ((Builtin.append_ ats ty #[s', x']).run P w) v h' := by
          intro i o r p ad c' hs0 hp hadr hfit hc ha
          subst hs0
          obtain ⟨new', hn1, hn2, hn3⟩ := sim_src R hx hsz hby hsrc
          split at ha
          · rename_i hn0
            simp at ha
            obtain ⟨rfl, rfl⟩ := ha
            subst hn0
            have : new' = [] := List.eq_nil_of_length_eq_zero (by simpa using hn2)
            subst this
            exact SimV.still R (app_fit (w' := w) h0 hu hsz hn3 hfit (by simp [AtBase, storeCells])) (.sl i o _ _ _ p _ _ hp hfit hc hadr)
          · rename_i hn0
            simp only [Option.map_eq_some_iff] at ha
            obtain ⟨h1, hput, ha⟩ := ha
            simp at ha
            obtain ⟨rfl, rfl⟩ := ha
            obtain rfl := hadr.resolve_right (by omega)
            have hne : new ≠ [] := by
              rintro rfl
              have h1 := hn1.length
              have : 0 < n * (sz1 + 1) := Nat.mul_pos (by omega) (by omega)
              simp at h1; omega
            obtain ⟨w', e1, e2, e3⟩ := R.putAt (P := P) hput hne hp hn1
            exact ⟨σ, w', _, app_fit h0 hu hsz hn3 hfit (by simp only [AtBase, addr_add, Nat.add_assoc]; exact e1), e3, e2, .sl i o _ _ _ p _ _ hp hfit hc (.inl rfl)⟩
        split at ha
        · -- nil
          split at ha
          · rename_i hl0
            simp only [Option.some.injEq, Prod.mk.injEq] at ha
            obtain ⟨rfl, rfl⟩ := ha
            cases hs
            exact empty rfl (.inl rfl) rfl rfl
          · simp at ha
        · rename_i i o
          -- what was there, read behind the draw
          have hold2 : ∀ {old : List AV} {p : Plc} {ad : Addr} {c' : Nat}, cellsAt h i o (len * (sz1 + 1)) = some old → σ[i]? = some p → (ad = ⟨p.blk, p.off + o, none⟩ ∨ c' = 0) → len ≤ c' →
              ∃ old' : List Value, VRs σ old old' ∧ old'.length = len * (sz1 + 1) ∧ OldAt P w.drew (sz1 + 1) len old' (some ad) ∧ (∀ j v, old'[j]? = some v → w.cell? ⟨p.blk, p.off + o + j, none⟩ = some v) := by
            intro old p ad c' hold hp hadr hlc
            by_cases h00 : len = 0
            · subst h00
              obtain ⟨vs, k1, k2, _⟩ := R.cellsAt hold hp
              simp at k1
              subst k1
              exact ⟨[], k2, by simp, by simp [OldAt, loadCells, loadCellsFrom], by simp⟩
            · obtain rfl := hadr.resolve_right (by omega)
              obtain ⟨vs, k1, k2, k3⟩ := R.cellsAt hold hp
              have := run_loadCells_list (P := P) w.drew ⟨p.blk, p.off + o, none⟩ vs (fun j v hj => by rw [addr_add]; exact k3 j v hj)
              rw [k1] at this
              exact ⟨vs, k2, k1, this, k3⟩
          split at ha
          · -- just so much room
            split at ha
            · rename_i hcap
              subst hcap
              split at ha
              · rename_i hl0
                simp only [Option.some.injEq, Prod.mk.injEq] at ha
                obtain ⟨rfl, rfl⟩ := ha
                cases hs with
                | sl _ _ _ _ _ p ad c' hp hl hc hadr =>
                  simp [capOf] at hc
                  subst hc
                  subst hl0
                  exact empty rfl (.inr ⟨_, rfl⟩) rfl rfl
              · simp at ha
            · rename_i hcap
              cases hs with
              | sl _ _ _ _ _ p ad c' hp hl hc hadr =>
              simp [capOf] at hc
              subst hc
              split at ha
              · rename_i hfit
                exact inplace rfl hp hadr hfit (by simp [capOf]) ha
              · rename_i hfit
                simp only [Option.map_eq_some_iff] at ha
                obtain ⟨old, hold, ha⟩ := ha
                simp only [Prod.mk.injEq] at ha
                obtain ⟨rfl, rfl⟩ := ha
                obtain ⟨old', ho1, ho2, ho3, ho4⟩ := hold2 hold hp hadr hl
                exact fresh none R rfl ho1 ho3 ho2 (by omega)
          · split at ha
            · -- it is filled
              rename_i hcap
              subst hcap
              simp only [Option.bind_eq_some_iff] at ha
              obtain ⟨old, hold, ha⟩ := ha
              unfold agrowK at ha
              split at ha
              · rename_i vs e' par hb
                split at ha
                · rename_i hcnd
                  obtain ⟨_, hc2, hcn, hc3, hc4⟩ := hcnd
                  subst hc3
                  simp only [Option.some.injEq, Prod.mk.injEq] at ha
                  obtain ⟨rfl, rfl⟩ := ha
                  have hi : i < h.length := (List.getElem?_eq_some_iff.1 hb).1
                  cases hs with
                  | sln _ _ p hp hc =>
                    have M := R.retire hb hp
                    simp at hc2
                    by_cases hn0 : n = 0
                    · subst hn0
                      have ho0 : o = 0 := by omega
                      subst ho0
                      have hvs : vs = [] := List.eq_nil_of_length_eq_zero hc2.symm
                      subst hvs
                      obtain ⟨new', hn1, hn2, hn3⟩ := sim_src R hx hsz hby hsrc
                      have hnn : new' = [] := List.eq_nil_of_length_eq_zero (by simpa using hn2)
                      subst hnn
                      have hnw : new = [] := List.eq_nil_of_length_eq_zero (by rw [hn1.length]; rfl)
                      subst hnw
                      have hol : old = [] := by
                        obtain ⟨vs, k1, k2, _⟩ := R.cellsAt hold hp
                        exact List.eq_nil_of_length_eq_zero (by rw [k2.length, k1]; simp)
                      subst hol
                      have A := M.1.pushVoid (sz1 + 1) (some i) ⟨w.heap.size, 0, 0⟩ rfl
                      have e1 : ((killp h par).set i (ABlk.cells [] (sz1 + 1) Md.ro none)).length = h.length := by simp [killp_length]
                      exact ⟨_, w, _, app_fit (w' := w) h0 hu hsz hn3 (Nat.le_refl _) rfl, M.2.trans A.2, A.1, .sln _ _ _ (by rw [← e1]; exact M.1.newAt _) rfl⟩
                    · have hol : old = [] := by
                        obtain ⟨vs, k1, k2, _⟩ := R.cellsAt hold hp
                        exact List.eq_nil_of_length_eq_zero (by rw [k2.length, k1]; simp)
                      subst hol
                      obtain ⟨σ', w', v', f1, f2, f3, f4⟩ := fresh (old := []) (old' := []) (a := none) (c' := 0) (some i) M.1 (by simp [killp_length]) .nil rfl (by simp) (by omega)
                      exact ⟨σ', w', v', f1, M.2.trans f2, f3, f4⟩
                  | sl _ _ _ _ _ p ad c' hp hl hc hadr =>
                  simp [capOf] at hc
                  obtain ⟨old', ho1, ho2, ho3, ho4⟩ := hold2 hold hp hadr hl
                  have hnb : (ABlk.cells vs (sz1 + 1) Md.own par).par = par := rfl
                  by_cases hin : len + n ≤ c'
                  · obtain ⟨new', hn1, hn2, hn3⟩ := sim_src R hx hsz hby hsrc
                    rcases R.obj hb hp with ⟨hv0, hsp⟩ | ⟨hne, c, tt, fr, b1, b2, b3⟩
                    · -- nothing at all
                      subst hv0
                      have hsp := hsp rfl
                      simp at hc2
                      obtain ⟨ho0, hl0⟩ := hc2
                      have hl0 : len = 0 := (Nat.mul_eq_zero.1 hl0).resolve_right (by omega)
                      subst hl0 ho0
                      have hn0 : n = 0 := by omega
                      subst hn0
                      have hnn : new' = [] := List.eq_nil_of_length_eq_zero (by simpa using hn2)
                      subst hnn
                      have hnw : new = [] := List.eq_nil_of_length_eq_zero (by rw [hn1.length]; rfl)
                      subst hnw
                      have hol : old = [] := List.eq_nil_of_length_eq_zero (by rw [ho1.length, ho2]; simp)
                      subst hol
                      have M := R.retire hb hp
                      have A := M.1.pushVoid (sz1 + 1) (some i) ⟨w.heap.size, 0, 0⟩ rfl
                      have e1 : ((killp h par).set i (ABlk.cells [] (sz1 + 1) Md.ro none)).length = h.length := by simp [killp_length]
                      exact ⟨_, w, _, app_fit (w' := w) h0 hu hsz hn3 hin (by simp [AtBase, storeCells]), M.2.trans A.2, A.1, .sl _ _ _ _ _ _ _ _ (by rw [← e1]; exact M.1.newAt _) hin (by simp [capOf]; omega) (.inr (by omega))⟩
                    -- in the room that is there
                    obtain ⟨b4, b5⟩ := b3 rfl
                    have hposv : 0 < vs.length := List.length_pos_iff.2 hne
                    have hc0 : c' ≠ 0 := by
                      intro h0
                      have hl0 : len = 0 := by omega
                      have hn0 : n = 0 := by omega
                      subst hl0 hn0
                      simp at hc2 hcn; omega
                    obtain rfl := hadr.resolve_right hc0
                    have hbl := b2.length
                    have hspare : (len + n) * (sz1 + 1) ≤ (len + p.spare) * (sz1 + 1) := Nat.mul_le_mul_right _ (by omega)
                    have hroom : p.off + o + len * (sz1 + 1) + new'.length ≤ c.size := by
                      rw [hn2]
                      have e1 : (len + n) * (sz1 + 1) = len * (sz1 + 1) + n * (sz1 + 1) := Nat.add_mul _ _ _
                      have e2 : (len + p.spare) * (sz1 + 1) = len * (sz1 + 1) + p.spare * (sz1 + 1) := Nat.add_mul _ _ _
                      omega
                    have hst := run_storeCells_cells (P := P) p.blk (p.off + o + len * (sz1 + 1)) new' 0 w
                      (by intro j hj; simp [World.cell?, b1]; omega)
                      (by
                        intro j hj
                        have := b4 (p.off + o + len * (sz1 + 1) + 0 + j) (by omega) (by omega)
                        simp only [World.frozen?, b1, Bool.and_eq_false_iff, decide_eq_false_iff_not]
                        by_cases hx1 : fr.1 ≤ p.off + o + len * (sz1 + 1) + 0 + j
                        · exact .inr fun hy => this ⟨hx1, hy⟩
                        · exact .inl hx1)
                      (hn1.oneCells hc4)
                    simp only [Nat.add_zero] at hst
                    obtain ⟨c2, g1, g2⟩ := setCells_heap_same new' w p.blk (p.off + o + len * (sz1 + 1)) c tt fr b1
                    have g3 : c2.size = c.size := by rw [← Array.length_toList, g2, putV_length, Array.length_toList]
                    have hro : ObjR σ p (w.setCells p.blk (p.off + o + len * (sz1 + 1)) new') (.cells vs (sz1 + 1) .ro none) := by
                      refine .inr ⟨hne, c2, tt, fr, g1, ?_, fun h => by cases h⟩
                      have : (c2.toList.drop p.off).take vs.length = (c.toList.drop p.off).take vs.length := by
                        rw [g2, Nat.add_assoc, putV_window]
                        rw [← hc2]
                        have := putV_take new' ((c.toList.drop p.off).take (o + len * (sz1 + 1))) (o + len * (sz1 + 1)) (o + len * (sz1 + 1)) (Nat.le_refl _)
                        rw [List.take_of_length_le (by rw [putV_length]; simp; omega)] at this
                        rw [this, List.take_take, Nat.min_self]
                      rw [this]; exact b2
                    have hmi := mine_of (e := sz1 + 1) (par := par) hne (show Md.own ≠ Md.far by simp)
                    have M := R.modify (w' := w.setCells p.blk (p.off + o + len * (sz1 + 1)) new') (b' := .cells vs (sz1 + 1) .ro none) hb hp hmi rfl rfl (fun k hk => setCells_heap_other _ _ _ _ _ hk) (setCells_size _ _ _ _)
                      (Below.setCells _ R.below (R.own hb hp hmi) _) hro
                    have hget : ((killp h par).set i (.cells vs (sz1 + 1) .ro none))[i]? = some (.cells vs (sz1 + 1) .ro none) := by
                      rw [List.getElem?_set, if_pos rfl, if_pos (by rw [killp_length]; exact hi)]
                    have hxl : (old ++ new).length = (len + n) * (sz1 + 1) := by rw [(ho1.append hn1).length, List.length_append, ho2, hn2, Nat.add_mul]
                    have hne2 : old ++ new ≠ [] := by
                      intro h0
                      rw [h0] at hxl
                      have hz : (len + n) * (sz1 + 1) = 0 := by simpa using hxl.symm
                      have hz : len + n = 0 := by
                        rcases Nat.mul_eq_zero.1 hz with h | h
                        · exact h
                        · omega
                      have hl0 : len = 0 := by omega
                      have hn0 : n = 0 := by omega
                      subst hl0 hn0
                      simp at hc2 hcn; omega
                    have A := M.1.alias (q := ⟨p.blk, p.off + o, c' - (len + n)⟩) (b := .cells (old ++ new) (sz1 + 1) .own (some i)) hget hp rfl rfl (mine_of hne2 (by simp)) (mine_of hne (by simp))
                      (fun hj hcj hmc hq => R.alone (b' := .cells vs (sz1 + 1) .ro none) hb hp hmi rfl hj hcj hmc hq) (by
                        refine .inr ⟨hne2, c2, tt, fr, g1, ?_, fun _ => ⟨fun j k1 k2 => b4 j (by simp at k1; omega) (by omega), ?_⟩⟩
                        · have hvl := (ho1.append hn1).length
                          have : ((c2.toList.drop (p.off + o)).take (old ++ new).length) = old' ++ new' := by
                            rw [hvl, g2, putV_window, List.length_append, ho2]
                            have hwin : (c.toList.drop (p.off + o)).take (len * (sz1 + 1)) = old' := by
                              apply List.ext_getElem?
                              intro j
                              by_cases hj : j < len * (sz1 + 1)
                              · have hj' : j < old'.length := by omega
                                have := ho4 j _ (List.getElem?_eq_getElem hj')
                                simp only [World.cell?, b1, Option.isSome_none, Bool.false_eq_true, if_false] at this
                                rw [List.getElem?_take, if_pos hj, List.getElem?_drop, Array.getElem?_toList, this, List.getElem?_eq_getElem hj']
                              · rw [List.getElem?_eq_none (by simp; omega), List.getElem?_eq_none (by omega)]
                            rw [putV_append _ _ _ (by simp only [List.length_take, List.length_drop, Array.length_toList]; omega), List.take_take, Nat.min_eq_left (by omega), hwin]
                          rw [this]; exact (ho1.append hn1).grow _
                        · have hvl := (ho1.append hn1).length
                          rw [g3, hvl, List.length_append, ho2, hn2]
                          have e1 : (c' - (len + n)) * (sz1 + 1) + (len * (sz1 + 1) + n * (sz1 + 1)) = c' * (sz1 + 1) := by
                            rw [← Nat.add_mul, ← Nat.add_mul]; congr 1; omega
                          have e2 : c' * (sz1 + 1) = len * (sz1 + 1) + p.spare * (sz1 + 1) := by rw [hc, Nat.add_mul]
                          simp only
                          omega)
                    have e1 : ((killp h par).set i (ABlk.cells vs (sz1 + 1) Md.ro none)).length = h.length := by simp [killp_length]
                    refine ⟨_, _, _, app_fit h0 hu hsz (w' := w.setCells p.blk (p.off + o + len * (sz1 + 1)) new') hn3 hin (by simp only [AtBase, addr_add]; exact hst), M.2.trans A.2, A.1, .sl _ _ _ _ _ ⟨p.blk, p.off + o, c' - (len + n)⟩ _ _ ?_ hin (by simp [capOf]; omega) (.inl (by simp))⟩
                    rw [← e1]; exact M.1.newAt _
                  · have M := R.retire hb hp
                    obtain ⟨σ', w', v', f1, f2, f3, f4⟩ := fresh (some i) M.1 (by simp [killp_length]) ho1 ho3 ho2 (c' := c') (by omega)
                    exact ⟨σ', w', v', f1, M.2.trans f2, f3, f4⟩
                · simp at ha
              · simp at ha
            · rename_i hcap
              split at ha
              · rename_i hfit
                cases hs with
                | sln _ _ p hp hc => exact absurd rfl hcap
                | sl _ _ _ _ _ p ad c' hp hl hc hadr =>
                simp [capOf] at hc
                split at ha
                · rename_i hn0
                  subst hn0
                  exact inplace (r := cap) rfl hp hadr (by omega) (by simp [capOf]; omega) (by simpa using ha)
                · rename_i hn0
                  exact inplace (r := cap - n) rfl hp hadr (by omega) (by simp [capOf]; omega) (by rw [if_neg hn0]; exact ha)
              · simp at ha
      · simp at ha
    · simp at ha
  · simp at ha

end Go.Abs
