/- Health.Count, Health.Down: contracts; DIPs by their numbers. -/
import Derived.Test.YtpghomcohejejaaHlN
set_option autoImplicit false
set_option maxRecDepth 100000
set_option linter.unusedVariables false
set_option linter.unusedSimpArgs false
namespace Go.Proofs.Ytpghomcohejejaa.L
open Go Go.Abs

noncomputable def eRd (val : HS → DipC → AV) : GEnt := fun args h => match args with
  | [.ptr (some (a, 0)), .agg D] => match h[a]? with
    | some (.cells [.int .i64 f, .map (some m), .sl (some (o, 0)) n z false] 3 .own none) => match h[m]?, h[o]? with
      | some (.mp es c true), some (.cells C 18 .own none) =>
        some (cdec (a ≠ m ∧ a ≠ o ∧ m ≠ o ∧ TelOk (unS f es c z C) (dipOf D) f es c n z C D), val (unS f es c z C) (dipOf D), h)
      | _, _ => none
    | _ => none
  | _ => none
theorem sRd {F : FuncId} {val : HS → DipC → AV} (hv : ∀ S d, (val S d).free = true) (H : ∀ {S : HS}, HOk 99999 S → ∀ d : DipC, ∃ X, Runs Try.prog F [.ptr (some (0, 0)), .agg d.cells] (hS S) (val S d) (hS S ++ X)) : SoundE Try.prog F (entF (eRd val)) := frame_sound fun args h v h' hg => by
  unfold eRd at hg
  split at hg
  case h_2 => simp at hg
  rename_i a D
  split at hg
  case h_2 => simp at hg
  rename_i f m o n z ha
  split at hg
  case h_2 => simp at hg
  rename_i es c C hm ho
  simp only [Option.some.injEq, Prod.mk.injEq] at hg
  obtain ⟨hg, rfl, rfl⟩ := hg
  rw [cdec_true] at hg
  obtain ⟨h1, h2, h3, G⟩ := hg
  obtain ⟨e1, e2, e3, e4, e5, e6, e7, HS⟩ := G
  generalize unS f es c z C = S at *
  generalize dipOf D = d at *
  subst e1 e2 e3 e4 e5 e6 e7
  have e0 : h = killp h none := rfl
  obtain ⟨X, hr⟩ := H HS d
  refine ⟨none, [a, m, o], [], [.ptr (some (0, 0)), .agg d.cells], hS S, _, _, [.cells [.int .i64 S.f, .map (some m), .sl (some (o, 0)) S.l.length S.z false] 3 .own none, .mp (esG S.G) S.c true, .cells (rowD S.l S.z) 18 .own none], [], by simp [h1, h2, h3], by simp, by simp, ?_, ?_, ?_, hr, ?_, .nil, ?_, ?_⟩
  · exact .cons _ _ _ _ (.ptr _ _ _ (by simp [posOf])) (.cons _ _ _ _ (.free _ d.cells_frees) .nil)
  · refine .cons _ _ _ _ _ ha (.cells _ _ _ _ _ _ (.cons _ _ _ _ (.free _ rfl) (.cons _ _ _ _ (.map _ _ ?_) (.cons _ _ _ _ (.sl _ _ _ _ _ _ ?_) .nil))) (by simp)) (.cons _ _ _ _ _ hm (.mp _ _ _ _ _ (.free _ (gd_free HS.gd))) (.cons _ _ _ _ _ ho (.row (rowD_frees _ _) (by simp)) .nil))
    · simp [posOf, h1]
    · simp [posOf, h2, h3]
  · intro i hi b hb
    rw [← e0] at hb ⊢
    simp only [List.mem_cons, List.not_mem_nil, or_false] at hi
    rcases hi with rfl | rfl | rfl
    · rw [ha] at hb; cases hb; exact ⟨rfl, by simp [ABlk.par]⟩
    · rw [hm] at hb; cases hb; exact ⟨rfl, by simp [ABlk.par]⟩
    · rw [ho] at hb; cases hb; exact ⟨rfl, by simp [ABlk.par]⟩
  · exact .cons _ _ _ _ _ rfl (.cells _ _ _ _ _ _ (.cons _ _ _ _ (.free _ rfl) (.cons _ _ _ _ (.map _ _ rfl) (.cons _ _ _ _ (.sl _ _ _ _ _ _ rfl) .nil))) (by simp)) (.cons _ _ _ _ _ rfl (.mp _ _ _ _ _ (.free _ (gd_free HS.gd))) (.cons _ _ _ _ _ rfl (.row (rowD_frees _ _) (by simp)) .nil))
  · exact .free _ (hv _ _)
  · rw [← e0]
    simp only [setAll, List.append_nil]
    rw [set_self ha, set_self hm, set_self ho]

noncomputable def eCnt : GEnt := eRd fun S d => .int .i64 (opq (cntS S d))
noncomputable def eDwn : GEnt := eRd fun S d => .bool (opq (decide (S.f ≤ cntS S d)))
theorem sCnt : SoundE Try.prog 13 (entF eCnt) := sRd (fun _ _ => rfl) fun {S} H d => by
  have A := lookOk (look_G (P := Try.prog) (r := 1) (h := hHCnt0 S.f (esG S.G) S.c S.l.length S.z (rowD S.l S.z) d.cells) (k := d.key) (G := S.G) (c := S.c) (s := true) rfl (dipKey H.gd _) mt57 z3)
  refine ⟨[.cells d.cells 18 .own none], ?_⟩
  refine Runs.ofT0 (find_nil _) (F := 100) (n := 4) (pr := []) ((nfHCnt _ _ _ _ _ _ _ _).trans ?_)
  rw [take18]
  refine (if_pos (by simp)).trans ?_
  refine (if_pos (cdec_true.2 A.1)).trans ?_
  rw [A.2, opq_eq]
  rfl
theorem sDwn : SoundE Try.prog 15 (entF eDwn) := sRd (fun _ _ => rfl) fun {S} H d => by
  have A := lookOk (look_G (P := Try.prog) (r := 1) (h := hHDwn0 S.f (esG S.G) S.c S.l.length S.z (rowD S.l S.z) d.cells) (k := d.key) (G := S.G) (c := S.c) (s := true) rfl (dipKey H.gd _) mt57 z3)
  refine ⟨[.cells d.cells 18 .own none], ?_⟩
  refine Runs.ofT0 (find_nil _) (F := 100) (n := 4) (pr := []) ((nfHDwn _ _ _ _ _ _ _ _).trans ?_)
  rw [take18]
  refine (if_pos (by simp)).trans ?_
  refine (if_pos (cdec_true.2 A.1)).trans ?_
  rw [A.2, opq_eq]
  rfl

def dipN (v : Bool) (n : Int) : DipC := ⟨v, [172, 16, 0, db3 n, 0, 0, 0, 0, 0, 0, 0, 0, 0, 0, 0, 0], dport n, rfl⟩
def cellsN (v : Bool) (n : Int) : List AV := (dipN v n).cells
noncomputable def eDipO : GEnt := fun args h => match args with
  | [.int .i64 n, .bool v] => some (true, .agg (opq cellsN v n), h)
  | _ => none
theorem sDipO : SoundE Try.prog 9 (entF eDipO) := entF_sound sDip fun args h v h' hg => by
  unfold eDipO at hg
  split at hg
  · simp only [Option.some.injEq, Prod.mk.injEq, true_and] at hg
    obtain ⟨rfl, rfl⟩ := hg
    rw [opq_eq]; rfl
  · simp at hg

def newS (f : Int) : HS := ⟨f, [], 0, [], 0⟩
theorem newS_ok (f : Int) : HOk 0 (newS f) := ⟨by intro g hg; simp [newS] at hg, GApart.nil _, by simp [newS], by simp [newS], fun d => ⟨by simp [cntS, newS, valG_nil], by simp [cntS, newS, valG_nil]⟩, fun d => by simp [newS, cntS, valG_nil]⟩
theorem HOk.up {B C : Nat} {S : HS} (H : HOk B S) (h : B ≤ C) : HOk C S := ⟨H.gd, H.ga, H.nd, by have := H.len; omega, fun d => by have := H.cnt d; omega, H.mem⟩

end Go.Proofs.Ytpghomcohejejaa.L
