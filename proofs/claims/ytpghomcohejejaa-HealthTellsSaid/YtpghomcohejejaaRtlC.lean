/- The reference's Health: Tell, Count: what is told of a call. -/
import Derived.Test.YtpghomcohejejaaRtlK
set_option autoImplicit false
set_option maxRecDepth 100000
set_option linter.unusedVariables false
set_option linter.unusedSimpArgs false
namespace Go.Proofs.Ytpghomcohejejaa.L
open Go Go.Abs

theorem itP_inj : ∀ {P Q : PL}, itP P = itP Q → P = Q
  | [], [], _ => rfl
  | [], d :: m, h => by have := congrArg List.length h; rw [itP_length, itP_length] at this; simp at this
  | d :: l, [], h => by have := congrArg List.length h; rw [itP_length, itP_length] at this; simp at this
  | d :: l, e :: m, h => by
    have h' : illC d.1 d.2 ++ itP l = illC e.1 e.2 ++ itP m := h
    obtain ⟨h1, h2⟩ := List.append_inj h' (by simp)
    unfold illC at h1
    obtain ⟨h3, h4⟩ := List.append_inj h1 (by simp)
    have h5 := cells_inj h3
    injection h4 with h4
    injection h4 with _ h4
    rw [itP_inj h2, show d = e from Prod.ext h5 h4]
noncomputable def plOf (C : List AV) : PL := @dite _ (∃ l, C = itP l) (Classical.propDecidable _) (fun h => Classical.choose h) fun _ => []
theorem plOf_eq (l : PL) : plOf (itP l) = l := by
  unfold plOf
  have h : ∃ m, itP l = itP m := ⟨l, rfl⟩
  rw [dif_pos h]
  exact (itP_inj (Classical.choose_spec h)).symm
structure RtOk (P : PL) (d : DipC) (n : Nat) (C D : List AV) : Prop where
  hC : C = itP P
  hn : n = P.length
  hD : D = d.cells
  ok : POk P
theorem rtOk {P : PL} {d : DipC} (H : POk P) : RtOk (plOf (itP P)) (dipOf d.cells) P.length (itP P) d.cells := by
  rw [plOf_eq, dipOf_eq]; exact ⟨rfl, rfl, rfl, H⟩
noncomputable def eRtl : GEnt := fun args h => match args with
  | [.ptr (some (a, 0)), .agg D, .bool w] => match h[a]? with
    | some (.cells [.int .i64 f, .sl (some (o, 0)) n 0 false] 2 .own none) => match h[o]? with
      | some (.cells C 19 .own none) =>
        some (cdec (a ≠ o ∧ RtOk (plOf C) (dipOf D) n C D), .tup [.bool (opq (telPD f (plOf C) (dipOf D) w)), .int .i64 (opq (telE (dipOf D)))],
          ((h.set a (.cells [.int .i64 f, .sl (some (h.length, 0)) (opq (telP (plOf C) (dipOf D) w).length) 0 false] 2 .own none)).set o .dead) ++ [.cells (opq (itP (telP (plOf C) (dipOf D) w))) 19 .own none])
      | _ => none
    | _ => none
  | _ => none
theorem sRtl : SoundE Try.prog 12 (entF eRtl) := frame_sound fun args h v h' hg => by
  unfold eRtl at hg
  split at hg
  case h_2 => simp at hg
  rename_i a D w
  split at hg
  case h_2 => simp at hg
  rename_i f o n ha
  split at hg
  case h_2 => simp at hg
  rename_i C ho
  simp only [Option.some.injEq, Prod.mk.injEq] at hg
  obtain ⟨hg, rfl, rfl⟩ := hg
  rw [cdec_true] at hg
  obtain ⟨h1, e1, e2, e3, H⟩ := hg
  generalize plOf C = P at *
  generalize dipOf D = d at *
  subst e1 e2 e3
  have e0 : h = killp h none := rfl
  refine ⟨none, [a, o], [2], [.ptr (some (0, 0)), .agg d.cells, .bool w], hP f P, .tup [.bool (telPD f P d w), .int .i64 (telE d)], hPT f (telP P d w), [.cells [.int .i64 f, .sl (some (h.length, 0)) (telP P d w).length 0 false] 2 .own none, .dead], [.cells (itP (telP P d w)) 19 .own none], by simp [h1], by simp, by simp, ?_, ?_, ?_, runRt H d w, ?_, ?_, ?_, ?_⟩
  · exact .cons _ _ _ _ (.ptr _ _ _ (by simp [posOf])) (.cons _ _ _ _ (.free _ d.cells_frees) (.free _ rfl))
  · refine .cons _ _ _ _ _ ha (.cells _ _ _ _ _ _ (.cons _ _ _ _ (.free _ rfl) (.cons _ _ _ _ (.sl _ _ _ _ _ _ ?_) .nil)) (by simp)) (.cons _ _ _ _ _ ho (.row (itP_frees _) (by simp)) .nil)
    simp [posOf, h1]
  · intro i hi b hb
    rw [← e0] at hb ⊢
    simp only [List.mem_cons, List.not_mem_nil, or_false] at hi
    rcases hi with rfl | rfl
    · rw [ha] at hb; cases hb; exact ⟨rfl, by simp [ABlk.par]⟩
    · rw [ho] at hb; cases hb; exact ⟨rfl, by simp [ABlk.par]⟩
  · rw [← e0]
    refine .cons _ _ _ _ _ rfl (.cells _ _ _ _ _ _ (.cons _ _ _ _ (.free _ rfl) (.cons _ _ _ _ (.sl _ _ _ _ _ _ ?_) .nil)) (by simp)) (.cons _ _ _ _ _ rfl (.dead _) .nil)
    simp [backOf, posOf]
  · exact .cons _ _ _ _ _ rfl (.row (itP_frees _) (by simp)) .nil
  · rw [opq_eq, opq_eq]; exact .free _ rfl
  · rw [← e0, opq_eq, opq_eq]
    simp only [setAll]
noncomputable def eRcn : GEnt := fun args h => match args with
  | [.ptr (some (a, 0)), .agg D] => match h[a]? with
    | some (.cells [.int .i64 f, .sl (some (o, 0)) n 0 false] 2 .own none) => match h[o]? with
      | some (.cells C 19 .own none) => some (cdec (a ≠ o ∧ RtOk (plOf C) (dipOf D) n C D), .int .i64 (opq (cntP (plOf C) (dipOf D))), h)
      | _ => none
    | _ => none
  | _ => none
theorem sRcn : SoundE Try.prog 14 (entF eRcn) := frame_sound fun args h v h' hg => by
  unfold eRcn at hg
  split at hg
  case h_2 => simp at hg
  rename_i a D
  split at hg
  case h_2 => simp at hg
  rename_i f o n ha
  split at hg
  case h_2 => simp at hg
  rename_i C ho
  simp only [Option.some.injEq, Prod.mk.injEq] at hg
  obtain ⟨hg, rfl, rfl⟩ := hg
  rw [cdec_true] at hg
  obtain ⟨h1, e1, e2, e3, H⟩ := hg
  generalize plOf C = P at *
  generalize dipOf D = d at *
  subst e1 e2 e3
  have e0 : h = killp h none := rfl
  obtain ⟨X, hr⟩ := runRc (f := f) H d
  refine ⟨none, [a, o], [], [.ptr (some (0, 0)), .agg d.cells], hP f P, _, _, [.cells [.int .i64 f, .sl (some (o, 0)) P.length 0 false] 2 .own none, .cells (itP P) 19 .own none], [], by simp [h1], by simp, by simp, ?_, ?_, ?_, hr, ?_, .nil, ?_, ?_⟩
  · exact .cons _ _ _ _ (.ptr _ _ _ (by simp [posOf])) (.cons _ _ _ _ (.free _ d.cells_frees) .nil)
  · refine .cons _ _ _ _ _ ha (.cells _ _ _ _ _ _ (.cons _ _ _ _ (.free _ rfl) (.cons _ _ _ _ (.sl _ _ _ _ _ _ ?_) .nil)) (by simp)) (.cons _ _ _ _ _ ho (.row (itP_frees _) (by simp)) .nil)
    simp [posOf, h1]
  · intro i hi b hb
    rw [← e0] at hb ⊢
    simp only [List.mem_cons, List.not_mem_nil, or_false] at hi
    rcases hi with rfl | rfl
    · rw [ha] at hb; cases hb; exact ⟨rfl, by simp [ABlk.par]⟩
    · rw [ho] at hb; cases hb; exact ⟨rfl, by simp [ABlk.par]⟩
  · exact .cons _ _ _ _ _ rfl (.cells _ _ _ _ _ _ (.cons _ _ _ _ (.free _ rfl) (.cons _ _ _ _ (.sl _ _ _ _ _ _ rfl) .nil)) (by simp)) (.cons _ _ _ _ _ rfl (.row (itP_frees _) (by simp)) .nil)
  · rw [opq_eq]; exact .free _ rfl
  · rw [← e0]
    simp only [setAll, List.append_nil]
    rw [set_self ha, set_self ho]


def plS (S : HS) : PL := S.l.map fun d => (d, cntS S d)
theorem itP_plS (S : HS) : itP (plS S) = itI S S.l := by
  unfold itP itI plS
  rw [List.flatMap_map]
theorem plS_ok {S : HS} (H : HOk 99999 S) : POk (plS S) := ⟨by unfold plS; rw [List.length_map]; exact H.len, fun p hp => by
  unfold plS at hp
  obtain ⟨d, _, rfl⟩ := List.mem_map.1 hp
  exact H.cnt d⟩
theorem atP_cons (p : DipC × Int) (P : PL) (d : DipC) : atP (p :: P) d = if p.1 = d then 0 else atP P d + 1 := by
  unfold atP
  rw [List.findIdx_cons]
  by_cases h : p.1 = d <;> simp [h]
theorem atP_lt {P : PL} {d : DipC} : atP P d < P.length ↔ d ∈ P.map Prod.fst := by
  unfold atP
  rw [List.findIdx_lt_length, List.mem_map]
  constructor
  · rintro ⟨x, h1, h2⟩; exact ⟨x, h1, of_decide_eq_true h2⟩
  · rintro ⟨x, h1, h2⟩; exact ⟨x, h1, decide_eq_true h2⟩
theorem plS_fst (S : HS) : (plS S).map Prod.fst = S.l := by
  unfold plS; rw [List.map_map]; exact List.map_id' _
theorem cntP_plS {B : Nat} {S : HS} (H : HOk B S) (d : DipC) : cntP (plS S) d = cntS S d := by
  unfold cntP
  split
  · rename_i h
    have e := atP_eq h
    have : (plS S)[atP (plS S) d].2 = cntS S (plS S)[atP (plS S) d].1 := by
      obtain ⟨x, _, hx⟩ := List.mem_map.1 (show (plS S)[atP (plS S) d] ∈ plS S from List.getElem_mem h)
      rw [← hx]
    rw [this, e]
  · rename_i h
    have := H.mem d
    rw [atP_lt, plS_fst] at h
    by_cases hc : cntS S d = 0
    · exact hc.symm
    · exact absurd (this.2 hc) h
theorem telPD_eq {B : Nat} {S : HS} (H : HOk B S) (d : DipC) (w : Bool) : telPD S.f (plS S) d w = telD S d w := by
  unfold telPD telD
  rw [cntP_plS H]
  congr 1
theorem map_set_at (l : List DipC) (g : DipC → Int) (d : DipC) (v : Int) (hn : l.Nodup) (h : atP (l.map fun x => (x, g x)) d < (l.map fun x => (x, g x)).length) :
    (l.map fun x => (x, g x)).set (atP (l.map fun x => (x, g x)) d) (d, v) = l.map fun x => (x, if x = d then v else g x) := by
  induction l with
  | nil => simp at h
  | cons x l ih =>
    rw [List.nodup_cons] at hn
    simp only [List.map_cons, atP_cons]
    simp only [List.map_cons, atP_cons, List.length_cons] at h
    by_cases hx : x = d
    · subst hx
      rw [if_pos rfl, List.set_cons_zero, if_pos rfl]
      congr 1
      apply List.map_congr_left
      intro y hy
      rw [if_neg (by rintro rfl; exact hn.1 hy)]
    · rw [if_neg hx, List.set_cons_succ, if_neg hx, ih hn.2 (by rw [if_neg hx] at h; omega)]
theorem erase_at (l : List DipC) (g : DipC → Int) (d : DipC) (h : atP (l.map fun x => (x, g x)) d < (l.map fun x => (x, g x)).length) :
    (l.map fun x => (x, g x)).eraseIdx (atP (l.map fun x => (x, g x)) d) = (delD l d).map fun x => (x, g x) := by
  induction l with
  | nil => simp at h
  | cons x l ih =>
    simp only [List.map_cons, atP_cons, delD_cons]
    simp only [List.map_cons, atP_cons, List.length_cons] at h
    by_cases hx : x = d
    · rw [if_pos hx, if_pos hx, List.eraseIdx_cons_zero]
    · rw [if_neg hx, if_neg hx, List.eraseIdx_cons_succ, ih (by rw [if_neg hx] at h; omega), List.map_cons]
theorem telP_eq {B : Nat} {S : HS} (H : HOk B S) (d : DipC) (w : Bool) : telP (plS S) d w = plS (telS S d w) := by
  have ec := fun e => cnt_tel H d w e
  have el := lst_tel H d w
  have hm := H.mem d
  have eP : plS (telS S d w) = (lstS S.l d w).map fun x => (x, cntS (telS S d w) x) := by unfold plS; rw [el]
  rw [eP]
  unfold telP
  cases hd : d.ok
  · rw [if_pos rfl]
    unfold lstS
    rw [if_pos hd]
    unfold plS
    apply List.map_congr_left
    intro x _
    rw [ec, if_neg (by rw [hd]; simp)]
  rw [if_neg (by simp)]
  have c0 := cntP_plS H d
  split
  · rename_i h
    have hmem := h
    rw [atP_lt, plS_fst] at hmem
    cases w
    · rw [if_neg (show ¬ (false = true) by decide)]
      have e1 : lstS S.l d false = S.l := by unfold lstS; rw [if_neg (by rw [hd]; simp), if_neg (show ¬ (false = true) by decide), if_pos hmem]
      have e2 : (plS S)[atP (plS S) d].2 = cntS S d := by rw [← c0]; unfold cntP; rw [dif_pos h]
      rw [e1, e2]
      refine (map_set_at S.l (cntS S) d _ H.nd h).trans ?_
      apply List.map_congr_left
      intro x _
      rw [ec]
      by_cases hx : x = d
      · rw [if_pos hx, if_pos ⟨hd, hx⟩, if_neg (show ¬ (false = true) by decide)]
      · rw [if_neg hx, if_neg (fun c => hx c.2)]
    · rw [if_pos rfl]
      have e1 : lstS S.l d true = delD S.l d := by unfold lstS; rw [if_neg (by rw [hd]; simp), if_pos rfl, delD_filter d H.nd]
      rw [e1]
      refine (erase_at S.l (cntS S) d h).trans ?_
      apply List.map_congr_left
      intro x hx
      rw [delD_filter d H.nd] at hx
      have hx := (List.mem_filter.1 hx).2
      rw [ec, if_neg (fun c => by simp [c.2] at hx)]
  · rename_i h
    have hnm := h
    rw [atP_lt, plS_fst] at hnm
    cases w
    · rw [if_neg (show ¬ (false = true) by decide)]
      have e1 : lstS S.l d false = S.l ++ [d] := by unfold lstS; rw [if_neg (by rw [hd]; simp), if_neg (show ¬ (false = true) by decide), if_neg hnm]
      have hz : cntS S d = 0 := by
        by_cases hc : cntS S d = 0
        · exact hc
        · exact absurd (hm.2 hc) hnm
      rw [e1, List.map_append]
      congr 1
      · unfold plS
        apply List.map_congr_left
        intro x hx
        rw [ec, if_neg (by rintro ⟨_, rfl⟩; exact hnm hx)]
      · simp only [List.map_cons, List.map_nil]
        rw [ec, if_pos ⟨hd, rfl⟩, if_neg (show ¬ (false = true) by decide), hz]; rfl
    · rw [if_pos rfl]
      have e1 : lstS S.l d true = S.l := by
        unfold lstS; rw [if_neg (by rw [hd]; simp), if_pos rfl]
        exact List.filter_eq_self.2 fun a ha => decide_eq_true (by rintro rfl; exact hnm ha)
      rw [e1]
      unfold plS
      apply List.map_congr_left
      intro x hx
      rw [ec, if_neg (by rintro ⟨_, rfl⟩; exact hnm hx)]

end Go.Proofs.Ytpghomcohejejaa.L
