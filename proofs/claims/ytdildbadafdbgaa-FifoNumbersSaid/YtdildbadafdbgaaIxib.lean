/- slices.IndexFunc over pairs of a queue: its contract. -/
import Derived.Test.YtdildbadafdbgaaIxibN
set_option autoImplicit false
set_option maxRecDepth 100000
set_option linter.unusedVariables false
set_option linter.unusedSimpArgs false
namespace Go.Proofs.Ytdildbadafdbgaa.L
open Go Go.Abs

abbrev flIxib (P : List (Int × Bool)) : List AV := fl (AV.int .i64) (AV.bool) P
def atIxib (P : List (Int × Bool)) (k : Int) : Nat := P.findIdx fun p => decide (p.1 = k)
def ixIxib (P : List (Int × Bool)) (k : Int) : Int := if atIxib P k < P.length then atIxib P k else -1
theorem frIxib (P : List (Int × Bool)) : AV.frees (flIxib P) = true := fl_frees (fun _ => rfl) (fun _ => rfl) P
theorem gcIxib (P : List (Int × Bool)) (k : Int) (n : Nat) (r i : Int) (X : ABlk) : Gc 2 (vIxib n r i) (hIxib (flIxib P) k ++ [X]) (vIxib n r i) (hIxib (flIxib P) k) :=
  Gc.by [0, 1] rfl (by decide) (.cons _ _ _ _ (.sl _ _ _ _ _ _ rfl) (.cons _ _ _ _ (.fn _ _ _ (.cons _ _ _ _ (.ptr _ _ _ rfl) .nil)) (.free _ rfl))) (.cons _ _ _ _ _ rfl (.row (frIxib P) (by simp)) (.cons _ _ _ _ _ rfl (.row rfl (by simp)) .nil))
theorem runIxib {P : List (Int × Bool)} {k : Int} (hl : P.length ≤ 1000000) : ∃ h', Runs Try.prog 37 [.sl (some (0, 0)) P.length 0 false, fIxib] (hIxib (flIxib P) k) (.int .i64 (ixIxib P k)) h' := by
  have lp : loopsOf (bodyOf Try.prog 37) = [LIxib] := by kernel_rfl
  have step : ∀ i : Nat, i < P.length → i < atIxib P k → ∃ vs1 h1, qround Try.prog [] 100 4 [(9, .bool true), (16, .bool false)] noT LIxib mIxib (vIxib P.length 0 i) (hIxib (flIxib P) k) = some (.norm, vs1, h1) ∧ Gc 2 vs1 h1 (vIxib P.length 0 ((i + 1 : Nat) : Int)) (hIxib (flIxib P) k) := by
    intro i hi hk
    have e5 : IntKind.i64.wrap ((i : Int) + 1) = ((i + 1 : Nat) : Int) := by rw [wrapI64 (by omega)]; omega
    have ea : List.take 2 (List.drop (0 + (i : Int).toNat * 2) (flIxib P)) = [AV.int .i64 P[i].1, AV.bool P[i].2] := by rw [show 0 + (i : Int).toNat * 2 = i * 2 by omega]; exact fl_at hi
    have hne : P[i].1 ≠ k := by have := List.not_of_lt_findIdx (p := fun p : Int × Bool => decide (p.1 = k)) (xs := P) hk; simpa using this
    rw [nfIxiba]
    refine ⟨?_, ?_, ?_, ?_⟩
    rotate_left 2
    · rw [ea, e5]
      repeat (first | (refine (if_pos ?_).trans ?_; · first | omega | (simp; done) | (simp [isIntV, isStrV]; done) | (simp; omega) | (simpa [intV, strV] using hne)))
      rfl
    · exact gcIxib _ _ _ _ _ _
  by_cases hj : atIxib P k < P.length
  · have key : True → ∃ j, GReach (roundG Try.prog (deepT Try.prog [] 100 4) (lsT noT) LIxib mIxib) 2 j (vIxib P.length 0 0) (hIxib (flIxib P) k) .ret (vIxib P.length (atIxib P k) (atIxib P k)) (hIxib (flIxib P) k) := by
      intro _
      refine loop_T (fun i => (vIxib P.length 0 i, hIxib (flIxib P) k)) (N := atIxib P k) (by simp) (fun i hi => ⟨_, step i (by omega) hi⟩) ?_
      have ea : List.take 2 (List.drop (0 + ((atIxib P k : Nat) : Int).toNat * 2) (flIxib P)) = [AV.int .i64 P[atIxib P k].1, AV.bool P[atIxib P k].2] := by rw [show 0 + ((atIxib P k : Nat) : Int).toNat * 2 = atIxib P k * 2 by omega]; exact fl_at hj
      have he : P[atIxib P k].1 = k := of_decide_eq_true (List.findIdx_getElem (p := fun p : Int × Bool => decide (p.1 = k)) (xs := P) (w := hj))
      refine ⟨[(9, .bool true), (16, .bool true)], ?_⟩
      show ∃ vs1 h1, qround Try.prog [] 100 4 _ noT LIxib mIxib (vIxib P.length 0 ((atIxib P k : Nat) : Int)) (hIxib (flIxib P) k) = some (.ret, vs1, h1) ∧ _
      rw [nfIxibb]
      refine ⟨?_, ?_, ?_, ?_⟩
      rotate_left 2
      · rw [ea]
        repeat (first | (refine (if_pos ?_).trans ?_; · first | omega | (simp; done) | (simp [isIntV, isStrV]; done) | (simp; omega) | (simpa [intV, strV] using he)))
        rfl
      · exact gcIxib _ _ _ _ _ _
    obtain ⟨h1, h2⟩ : ∃ h', Runs Try.prog 37 [.sl (some (0, 0)) P.length 0 false, fIxib] (hIxib (flIxib P) k) (.int .i64 (atIxib P k)) h' := by
      refine Runs.valT (find_nil _) (F := 100) (n := 4) (pr := []) (only (k := 2) lp (fixC_T (find_nil _) (F := 100) (n := 4) (LS := noT) (noLoops (by kernel_rfl)) key)) ?_
      rw [nfIxibY]
      exact if_pos (cdec_true.2 ⟨trivial, rfl, rfl⟩)
    exact ⟨h1, by unfold ixIxib; rw [if_pos hj]; exact h2⟩
  · have key : True → ∃ j, GReach (roundG Try.prog (deepT Try.prog [] 100 4) (lsT noT) LIxib mIxib) 2 j (vIxib P.length 0 0) (hIxib (flIxib P) k) (.exit 0) (vIxib P.length 0 P.length) (hIxib (flIxib P) k) := by
      intro _
      exact loop_T (fun i => (vIxib P.length 0 i, hIxib (flIxib P) k)) (N := P.length) (by simp) (fun i hi => ⟨_, step i hi (by omega)⟩) ⟨_, _, _, (nfIxibs P.length P.length k _).trans (if_pos (by simp)), Gc.refl⟩
    obtain ⟨h1, h2⟩ : ∃ h', Runs Try.prog 37 [.sl (some (0, 0)) P.length 0 false, fIxib] (hIxib (flIxib P) k) (.int .i64 (-1)) h' := by
      refine Runs.valT (find_nil _) (F := 100) (n := 4) (pr := []) (only (k := 2) lp (fixC_T (find_nil _) (F := 100) (n := 4) (LS := noT) (noLoops (by kernel_rfl)) key)) ?_
      rw [nfIxibX]
      exact if_pos (cdec_true.2 ⟨trivial, rfl, rfl⟩)
    exact ⟨h1, by unfold ixIxib; rw [if_neg hj]; exact h2⟩

inductive RIxib : List AV → AHeap → AV → AHeap → Prop
  | mk (P : List (Int × Bool)) (k : Int) (h : AHeap) (a : AV) (c : Nat) (md : Md) (par : Option Nat) (ga : rowOk h a 2 = true) (gr : rowOf h a = flIxib P) (gc : h[c]? = some (.cells [AV.int .i64 k] 1 md par)) (hl : P.length ≤ 1000000) (r : Int) (hr : ixIxib P k = r) :
      RIxib [a, .fn (.func 38) [.ptr (some (c, 0))]] h (.int .i64 r) []
theorem sIxib (L : List (Nat × AV × AHeap)) : SoundE Try.prog 37 (entF (eRel RIxib L)) := by
  refine relR_sound (fun args h v new hR => ?_) L
  cases hR with
  | mk P k _ a c md par ga gr gc hl r hr =>
  subst hr
  obtain ⟨h1, h2⟩ := runIxib (P := P) (k := k) hl
  have hn : nOf a = P.length := by
    have := rowLen ga
    rw [gr, fl_length] at this; omega
  have ca := rowCanon ga gr (frIxib P) 0
  rw [hn] at ca
  exact ⟨_, _, .cons _ _ _ _ _ _ _ ca (.cons _ _ _ _ _ _ _ (.fn _ _ _ _ _ (.cons _ _ _ _ _ _ _ (.ptr _ _ _ _ _ _ _ _ _ gc (by simp) (Canons.frees rfl)) (.nil _))) (.nil _)), _, h1, h2, [], .flat _ _ rfl, ksOk0⟩

end Go.Proofs.Ytdildbadafdbgaa.L
