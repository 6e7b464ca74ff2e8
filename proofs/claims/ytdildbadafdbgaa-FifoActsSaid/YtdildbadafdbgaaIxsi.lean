/- slices.IndexFunc over pairs of a queue: its contract. -/
import Derived.Test.YtdildbadafdbgaaIxsiN
set_option autoImplicit false
set_option maxRecDepth 100000
set_option linter.unusedVariables false
set_option linter.unusedSimpArgs false
namespace Go.Proofs.Ytdildbadafdbgaa.L
open Go Go.Abs

abbrev flIxsi (P : List (List UInt8 × Int)) : List AV := fl (AV.str) (AV.int .i64) P
def atIxsi (P : List (List UInt8 × Int)) (k : List UInt8) : Nat := P.findIdx fun p => decide (p.1 = k)
def ixIxsi (P : List (List UInt8 × Int)) (k : List UInt8) : Int := if atIxsi P k < P.length then atIxsi P k else -1
theorem frIxsi (P : List (List UInt8 × Int)) : AV.frees (flIxsi P) = true := fl_frees (fun _ => rfl) (fun _ => rfl) P
theorem gcIxsi (P : List (List UInt8 × Int)) (k : List UInt8) (n : Nat) (r i : Int) (X : ABlk) : Gc 2 (vIxsi n r i) (hIxsi (flIxsi P) k ++ [X]) (vIxsi n r i) (hIxsi (flIxsi P) k) :=
  Gc.by [0, 1] rfl (by decide) (.cons _ _ _ _ (.sl _ _ _ _ _ _ rfl) (.cons _ _ _ _ (.fn _ _ _ (.cons _ _ _ _ (.ptr _ _ _ rfl) .nil)) (.free _ rfl))) (.cons _ _ _ _ _ rfl (.row (frIxsi P) (by simp)) (.cons _ _ _ _ _ rfl (.row rfl (by simp)) .nil))
theorem runIxsi {P : List (List UInt8 × Int)} {k : List UInt8} (hl : P.length ≤ 1000000) : ∃ h', Runs Try.prog 39 [.sl (some (0, 0)) P.length 0 false, fIxsi] (hIxsi (flIxsi P) k) (.int .i64 (ixIxsi P k)) h' := by
  have lp : loopsOf (bodyOf Try.prog 39) = [LIxsi] := by kernel_rfl
  have step : ∀ i : Nat, i < P.length → i < atIxsi P k → ∃ vs1 h1, qround Try.prog [] 100 4 [(9, .bool true), (16, .bool false)] noT LIxsi mIxsi (vIxsi P.length 0 i) (hIxsi (flIxsi P) k) = some (.norm, vs1, h1) ∧ Gc 2 vs1 h1 (vIxsi P.length 0 ((i + 1 : Nat) : Int)) (hIxsi (flIxsi P) k) := by
    intro i hi hk
    have e5 : IntKind.i64.wrap ((i : Int) + 1) = ((i + 1 : Nat) : Int) := by rw [wrapI64 (by omega)]; omega
    have ea : List.take 2 (List.drop (0 + (i : Int).toNat * 2) (flIxsi P)) = [AV.str P[i].1, AV.int .i64 P[i].2] := by rw [show 0 + (i : Int).toNat * 2 = i * 2 by omega]; exact fl_at hi
    have hne : P[i].1 ≠ k := by have := List.not_of_lt_findIdx (p := fun p : List UInt8 × Int => decide (p.1 = k)) (xs := P) hk; simpa using this
    rw [nfIxsia]
    refine ⟨?_, ?_, ?_, ?_⟩
    rotate_left 2
    · rw [ea, e5]
      repeat (first | (refine (if_pos ?_).trans ?_; · first | omega | (simp; done) | (simp [isIntV, isStrV]; done) | (simp; omega) | (simpa [intV, strV] using hne)))
      rfl
    · exact gcIxsi _ _ _ _ _ _
  by_cases hj : atIxsi P k < P.length
  · have key : True → ∃ j, GReach (roundG Try.prog (deepT Try.prog [] 100 4) (lsT noT) LIxsi mIxsi) 2 j (vIxsi P.length 0 0) (hIxsi (flIxsi P) k) .ret (vIxsi P.length (atIxsi P k) (atIxsi P k)) (hIxsi (flIxsi P) k) := by
      intro _
      refine loop_T (fun i => (vIxsi P.length 0 i, hIxsi (flIxsi P) k)) (N := atIxsi P k) (by simp) (fun i hi => ⟨_, step i (by omega) hi⟩) ?_
      have ea : List.take 2 (List.drop (0 + ((atIxsi P k : Nat) : Int).toNat * 2) (flIxsi P)) = [AV.str P[atIxsi P k].1, AV.int .i64 P[atIxsi P k].2] := by rw [show 0 + ((atIxsi P k : Nat) : Int).toNat * 2 = atIxsi P k * 2 by omega]; exact fl_at hj
      have he : P[atIxsi P k].1 = k := of_decide_eq_true (List.findIdx_getElem (p := fun p : List UInt8 × Int => decide (p.1 = k)) (xs := P) (w := hj))
      refine ⟨[(9, .bool true), (16, .bool true)], ?_⟩
      show ∃ vs1 h1, qround Try.prog [] 100 4 _ noT LIxsi mIxsi (vIxsi P.length 0 ((atIxsi P k : Nat) : Int)) (hIxsi (flIxsi P) k) = some (.ret, vs1, h1) ∧ _
      rw [nfIxsib]
      refine ⟨?_, ?_, ?_, ?_⟩
      rotate_left 2
      · rw [ea]
        repeat (first | (refine (if_pos ?_).trans ?_; · first | omega | (simp; done) | (simp [isIntV, isStrV]; done) | (simp; omega) | (simpa [intV, strV] using he)))
        rfl
      · exact gcIxsi _ _ _ _ _ _
    obtain ⟨h1, h2⟩ : ∃ h', Runs Try.prog 39 [.sl (some (0, 0)) P.length 0 false, fIxsi] (hIxsi (flIxsi P) k) (.int .i64 (atIxsi P k)) h' := by
      refine Runs.valT (find_nil _) (F := 100) (n := 4) (pr := []) (only (k := 2) lp (fixC_T (find_nil _) (F := 100) (n := 4) (LS := noT) (noLoops (by kernel_rfl)) key)) ?_
      rw [nfIxsiY]
      exact if_pos (cdec_true.2 ⟨trivial, rfl, rfl⟩)
    exact ⟨h1, by unfold ixIxsi; rw [if_pos hj]; exact h2⟩
  · have key : True → ∃ j, GReach (roundG Try.prog (deepT Try.prog [] 100 4) (lsT noT) LIxsi mIxsi) 2 j (vIxsi P.length 0 0) (hIxsi (flIxsi P) k) (.exit 0) (vIxsi P.length 0 P.length) (hIxsi (flIxsi P) k) := by
      intro _
      exact loop_T (fun i => (vIxsi P.length 0 i, hIxsi (flIxsi P) k)) (N := P.length) (by simp) (fun i hi => ⟨_, step i hi (by omega)⟩) ⟨_, _, _, (nfIxsis P.length P.length k _).trans (if_pos (by simp)), Gc.refl⟩
    obtain ⟨h1, h2⟩ : ∃ h', Runs Try.prog 39 [.sl (some (0, 0)) P.length 0 false, fIxsi] (hIxsi (flIxsi P) k) (.int .i64 (-1)) h' := by
      refine Runs.valT (find_nil _) (F := 100) (n := 4) (pr := []) (only (k := 2) lp (fixC_T (find_nil _) (F := 100) (n := 4) (LS := noT) (noLoops (by kernel_rfl)) key)) ?_
      rw [nfIxsiX]
      exact if_pos (cdec_true.2 ⟨trivial, rfl, rfl⟩)
    exact ⟨h1, by unfold ixIxsi; rw [if_neg hj]; exact h2⟩

inductive RIxsi : List AV → AHeap → AV → AHeap → Prop
  | mk (P : List (List UInt8 × Int)) (k : List UInt8) (h : AHeap) (a : AV) (c : Nat) (md : Md) (par : Option Nat) (ga : rowOk h a 2 = true) (gr : rowOf h a = flIxsi P) (gc : h[c]? = some (.cells [AV.str k] 1 md par)) (hl : P.length ≤ 1000000) (r : Int) (hr : ixIxsi P k = r) :
      RIxsi [a, .fn (.func 40) [.ptr (some (c, 0))]] h (.int .i64 r) []
theorem kIxsi : ∀ args h v new, RIxsi args h v new → ∃ args1 h1, Canons h 0 args args1 h1 ∧ ∃ v1 h1', Runs Try.prog 39 args1 h1 v1 h1' ∧ ∃ ks, Den h1' h1.length h.length ks v1 v new ∧ KsOk ks := by
  intro args h v new hR
  cases hR with
  | mk P k _ a c md par ga gr gc hl r hr =>
  subst hr
  obtain ⟨h1, h2⟩ := runIxsi (P := P) (k := k) hl
  have hn : nOf a = P.length := by
    have := rowLen ga
    rw [gr, fl_length] at this; omega
  have ca := rowCanon ga gr (frIxsi P) 0
  rw [hn] at ca
  exact ⟨_, _, .cons _ _ _ _ _ _ _ ca (.cons _ _ _ _ _ _ _ (.fn _ _ _ _ _ (.cons _ _ _ _ _ _ _ (.ptr _ _ _ _ _ _ _ _ _ gc (by simp) (Canons.frees rfl)) (.nil _))) (.nil _)), _, h1, h2, [], .flat _ _ rfl, ksOk0⟩
theorem sIIxsi : SoundE Try.prog 39 (entF (eRelI RIxsi)) := relI_sound kIxsi
theorem cIxsi {args : List AV} {h : AHeap} {r : Int} (H : RIxsi args h (.int .i64 r) []) : intC RIxsi args h = r := by
  refine intC_eq H fun r' H' => ?_
  cases H with
  | mk P k _ a c md par ga gr gc hl r hr =>
  cases H' with
  | mk P' k' _ _ _ md' par' ga' gr' gc' hl' r' hr' =>
  rw [gr] at gr'
  have eP := fl_inj (fun a b h => by injection h) (fun a b h => by injection h) gr'
  rw [gc] at gc'
  have ek : k = k' := by injection gc' with e; injection e with e; injection e with e; injection e
  rw [← hr, ← hr', eP, ek]

end Go.Proofs.Ytdildbadafdbgaa.L
