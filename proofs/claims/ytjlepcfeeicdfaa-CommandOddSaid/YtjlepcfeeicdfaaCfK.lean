/- ContainsFunc: its contract. -/
import Derived.Test.YtjlepcfeeicdfaaCfN
set_option autoImplicit false
set_option maxRecDepth 100000
set_option linter.unusedVariables false
set_option linter.unusedSimpArgs false
namespace Go.Proofs.Ytjlepcfeeicdfaa.L
open Go Go.Abs

def dF (w : Bool) (x : Nat → Int) (po : Int) : DipC := ⟨w, [x 0, x 1, x 2, x 3, x 4, x 5, x 6, x 7, x 8, x 9, x 10, x 11, x 12, x 13, x 14, x 15], po, rfl⟩
theorem dF_of (d : DipC) : ∃ w x po, d = dF w x po := by
  obtain ⟨v, b, p, h⟩ := d
  obtain ⟨b0, b1, b2, b3, b4, b5, b6, b7, b8, b9, b10, b11, b12, b13, b14, b15, rfl⟩ := sixteen h
  exact ⟨v, fun i => [b0, b1, b2, b3, b4, b5, b6, b7, b8, b9, b10, b11, b12, b13, b14, b15].getD i 0, p, rfl⟩
inductive CfR : List AV → AHeap → AV → AHeap → Prop
  | mk (P : PL) (k pr : Int) (d : DipC) (h : AHeap) (a s : AV) (b : Nat) (e : Nat) (md : Md) (par : Option Nat) (ga : rowP h a P) (gb : h[b]? = some (.cells (.int .i64 k :: cmX pr d s) e md par)) (he : e = 21) (gs : rowP h s P) (hl : P.length ≤ 1000000) (r : Bool) (hr : P.any (badM k) = r) :
      CfR [a, .fn (.func 36) [.ptr (some (b, 0))]] h (.bool r) []
theorem ixM_any (k : Int) (P : PL) : decide (ixMI k P ≥ 0) = P.any (badM k) := by
  have h := List.findIdx_lt_length (p := badM k) (xs := P)
  unfold ixMI ixM
  by_cases hx : P.findIdx (badM k) < P.length
  · rw [if_pos hx]
    obtain ⟨x, hx1, hx2⟩ := h.1 hx
    rw [List.any_eq_true.2 ⟨x, hx1, hx2⟩]
    exact decide_eq_true (by omega)
  · rw [if_neg hx]
    have : P.any (badM k) = false := by
      rw [List.any_eq_false]
      intro x hx1 hx2
      exact hx (h.2 ⟨x, hx1, hx2⟩)
    rw [this]; rfl
theorem sCf (L : List (Nat × AV × AHeap)) : SoundE Try.prog 35 (entF (eRel CfR L)) := by
  refine relR_sound (fun args h v new hR => ?_) L
  cases hR with
  | mk P k pr d _ a s b e md par ga gb he gs hl r hr =>
  subst hr he
  have run : ∃ h', Runs Try.prog 35 [.sl (some (0, 0)) P.length 0 false, fMx 1] (hMx (itP P) k (cmX pr d (.sl (some (2, 0)) P.length 0 false)) (.cells (itP P) 19 .far none)) (.bool (P.any (badM k))) h' := by
    refine Runs.valT0 (tCfOk (ixMI k P)) (F := 100) (n := 4) (pr := []) ?_
    refine (nfCf ..).trans ?_
    refine (if_pos (cdec_true.2 (.mk P k pr d _ _ (.sl (some (2, 0)) P.length 0 false) 1 21 .far none (rowP_blk rfl rfl) rfl rfl (rowP_blk rfl rfl) hl _ rfl))).trans ?_
    rw [← ixM_any]
  obtain ⟨h1, h2⟩ := run
  exact ⟨[.sl (some (0, 0)) P.length 0 false, fMx 1], hMx (itP P) k (cmX pr d (.sl (some (2, 0)) P.length 0 false)) (.cells (itP P) 19 .far none), .cons _ _ _ _ _ [.cells (itP P) 19 .far none] [.cells (.int .i64 k :: cmX pr d (.sl (some (2, 0)) P.length 0 false)) 21 .far none, .cells (itP P) 19 .far none] (rowP_canon ga 0) (.cons _ _ _ _ _ [.cells (.int .i64 k :: cmX pr d (.sl (some (2, 0)) P.length 0 false)) 21 .far none, .cells (itP P) 19 .far none] [] (.fn _ _ _ _ _ (.cons _ _ _ _ _ [.cells (.int .i64 k :: cmX pr d (.sl (some (2, 0)) P.length 0 false)) 21 .far none, .cells (itP P) 19 .far none] [] (.ptr _ _ _ _ _ _ _ _ _ gb (by simp) (canons_cm gs)) (.nil _))) (.nil _)), _, h1, h2, [], .flat _ _ rfl, ksOk0⟩


end Go.Proofs.Ytjlepcfeeicdfaa.L
