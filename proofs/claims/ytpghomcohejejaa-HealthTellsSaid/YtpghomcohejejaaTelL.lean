/- Health's state: what stays, what is counted. -/
import Derived.Test.YtpghomcohejejaaTelK
set_option autoImplicit false
set_option maxRecDepth 100000
set_option linter.unusedVariables false
set_option linter.unusedSimpArgs false
namespace Go.Proofs.Ytpghomcohejejaa.L
open Go Go.Abs

theorem delD_cons (x : DipC) (l : List DipC) (k : DipC) : delD (x :: l) k = if x = k then l else x :: delD l k := by
  unfold delD atD
  rw [List.findIdx_cons]
  by_cases h : x = k
  · rw [if_pos h]; simp [h]
  · rw [if_neg h]
    simp only [h, decide_false, cond_false, List.length_cons, Nat.add_lt_add_iff_right, List.eraseIdx_cons_succ]
    split <;> rfl
theorem delD_filter : ∀ {l : List DipC} (k : DipC), l.Nodup → delD l k = l.filter fun x => decide (x ≠ k)
  | [], _, _ => rfl
  | x :: l, k, h => by
    rw [List.nodup_cons] at h
    rw [delD_cons, List.filter_cons]
    by_cases hx : x = k
    · subst hx
      rw [if_pos rfl, if_neg (by simp)]
      exact (List.filter_eq_self.2 fun a ha => by simp; rintro rfl; exact h.1 ha).symm
    · rw [if_neg hx, if_pos (by simp [hx]), delD_filter k h.2]
theorem key_iff {d e : DipC} : d.key = e.key ↔ d = e := ⟨fun h => by injection h with h; exact cells_inj h, fun h => by rw [h]⟩

theorem cnt_tel {B : Nat} {S : HS} (H : HOk B S) (d : DipC) (w : Bool) (e : DipC) : cntS (telS S d w) e = if d.ok = true ∧ e = d then (if w = true then 0 else cntS S d + 1) else cntS S e := by
  have k1 : ∀ (x y : Int), (if e.key = d.key then x else y) = if e = d then x else y := fun x y => by
    by_cases h : e = d
    · rw [if_pos (key_iff.2 h), if_pos h]
    · rw [if_neg (fun c => h (key_iff.1 c)), if_neg h]
  cases hd : d.ok
  · unfold telS; rw [if_pos hd, if_neg (by simp)]
  by_cases he : e = d
  · rw [if_pos ⟨rfl, he⟩]
    subst he
    unfold telS
    rw [if_neg (by rw [hd]; simp)]
    cases w
    · rw [if_neg (by simp)]
      split
      · rename_i h0
        show valG (setG S.G e.key 1 S.c) e.key = _
        rw [valG_set, if_pos rfl, h0]; rfl
      · show valG (setG S.G e.key (cntS S e + 1) S.c) e.key = _
        rw [valG_set, if_pos rfl]; rfl
    · rw [if_pos rfl]
      show valG (delG S.G e.key) e.key = _
      rw [valG_del H.ga.keys, if_pos rfl]; rfl
  · rw [if_neg (fun h => he h.2)]
    unfold telS
    rw [if_neg (by rw [hd]; simp)]
    cases w
    · rw [if_neg (by simp)]
      split
      · show valG (setG S.G d.key 1 S.c) e.key = _
        rw [valG_set, if_neg (fun h => he (key_iff.1 h))]; rfl
      · show valG (setG S.G d.key (cntS S d + 1) S.c) e.key = _
        rw [valG_set, if_neg (fun h => he (key_iff.1 h))]; rfl
    · rw [if_pos rfl]
      show valG (delG S.G d.key) e.key = _
      rw [valG_del H.ga.keys, if_neg (fun h => he (key_iff.1 h))]; rfl

noncomputable def lstS (l : List DipC) (d : DipC) (w : Bool) : List DipC := if d.ok = false then l else if w = true then l.filter (fun x => decide (x ≠ d)) else if d ∈ l then l else l ++ [d]
theorem lst_tel {B : Nat} {S : HS} (H : HOk B S) (d : DipC) (w : Bool) : (telS S d w).l = lstS S.l d w := by
  unfold telS lstS
  split
  · rfl
  split
  · exact delD_filter d H.nd
  · have := H.mem d
    by_cases h : cntS S d = 0
    · rw [if_pos h, if_neg (fun c => this.1 c h)]
    · rw [if_neg h, if_pos (this.2 h)]
theorem tel_ok {B : Nat} {S : HS} (H : HOk B S) (d : DipC) (w : Bool) : HOk (B + 1) (telS S d w) := by
  have hcnt : ∀ e, 0 ≤ cntS (telS S d w) e ∧ cntS (telS S d w) e ≤ ((B + 1 : Nat) : Int) := fun e => by
    rw [cnt_tel H]
    have h1 := H.cnt e
    have h2 := H.cnt d
    split
    · split <;> omega
    · omega
  have hlen := H.len
  refine ⟨telS_gd H d w, ?_, ?_, ?_, hcnt, ?_⟩
  · unfold telS
    split
    · exact H.ga
    · split
      · exact H.ga.del
      · split
        · exact H.ga.set
        · exact H.ga.set
  · rw [lst_tel H]; unfold lstS
    split
    · exact H.nd
    · split
      · exact H.nd.sublist List.filter_sublist
      · split
        · exact H.nd
        · rename_i hn
          rw [List.nodup_append]
          exact ⟨H.nd, by simp, fun a ha b hb => by simp at hb; subst hb; rintro rfl; exact hn ha⟩
  · rw [lst_tel H]; unfold lstS
    split
    · omega
    · split
      · have := List.length_filter_le (fun x => decide (x ≠ d)) S.l; omega
      · split
        · omega
        · simp; omega
  · intro e
    have hm := H.mem e
    have hd2 := (H.cnt d).1
    have e1 := lst_tel H d w
    have e2 := cnt_tel H d w e
    unfold lstS at e1
    cases hd : d.ok
    · rw [hd] at e1 e2
      rw [if_pos rfl] at e1
      rw [if_neg (by simp)] at e2
      rw [e1, e2]; exact hm
    rw [hd] at e1 e2
    rw [if_neg (by simp)] at e1
    by_cases he : e = d
    · rw [if_pos ⟨rfl, he⟩] at e2
      subst he
      cases w
      · rw [if_neg (by simp)] at e1 e2
        rw [e1, e2]
        constructor
        · intro; omega
        · intro
          split
          · assumption
          · simp
      · rw [if_pos rfl] at e1 e2
        rw [e1, e2]; simp
    · rw [if_neg (fun h => he h.2)] at e2
      rw [e1, e2]
      cases w
      · rw [if_neg (by simp)]
        split
        · exact hm
        · rw [List.mem_append, List.mem_singleton]; exact ⟨fun h => h.elim hm.1 (fun h => absurd h he), fun h => .inl (hm.2 h)⟩
      · rw [if_pos rfl, List.mem_filter]
        exact ⟨fun h => hm.1 h.1, fun h => ⟨hm.2 h, by simp [he]⟩⟩

end Go.Proofs.Ytpghomcohejejaa.L
