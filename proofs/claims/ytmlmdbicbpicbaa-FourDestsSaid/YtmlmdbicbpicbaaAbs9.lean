/- Operation by operation: equality, numbers, texts. -/
import Derived.Test.YtmlmdbicbpicbaaAbs8
set_option autoImplicit false
set_option linter.unusedVariables false
set_option linter.unusedSimpArgs false
namespace Go.Abs
variable {P : Program} {W0 : World} {σ : Sig} {h : AHeap} {w : World}

def EqSim (P : Program) (σ : Sig) (d : Nat) : Prop :=
  ∀ (t : TypeId) (x y : AV) (x' y' : Value) (r : Bool) (w : World), VR σ x x' → VR σ y y' → aeqIn P d t x y = some r → (Op.equalIn d t x' y').run P w = .ok r w

theorem sim_eqFields {d : Nat} (ih : EqSim P σ d) {xs ys : List AV} {xs' ys' : List Value} (hx : VRs σ xs xs') (hy : VRs σ ys ys') (w : World) : ∀ (fs : List Field) (r : Bool),
    aeqFields P (aeqIn P d) xs ys fs = some r → (Op.eqFields d xs'.toArray ys'.toArray fs).run P w = .ok r w
  | [], r, ha => by simp [aeqFields] at ha; subst ha; rfl
  | f :: fs, r, ha => by
    unfold aeqFields at ha
    split at ha
    · rename_i hn
      unfold Op.eqFields
      rw [if_neg (by simpa using hn)]
      exact sim_eqFields ih hx hy w fs r ha
    · rename_i hn
      simp only [Option.bind_eq_some_iff] at ha
      obtain ⟨a, ha1, b, hb1, r1, hr1, ha⟩ := ha
      obtain ⟨a', e1, e2⟩ := sim_part hx ha1 w
      obtain ⟨b', e3, e4⟩ := sim_part hy hb1 w
      have e5 := ih f.type a b a' b' r1 w e2 e4 hr1
      unfold Op.eqFields
      rw [if_pos (by simpa using hn)]
      simp only [Sem.run_bind, e1, e3, e5, Result.andThen_ok]
      simp only [Option.map_eq_some_iff] at ha
      obtain ⟨s, hs, rfl⟩ := ha
      cases r1 with
      | false => simp
      | true => simpa using sim_eqFields ih hx hy w fs s hs

theorem sim_eqItems {d sz : Nat} {e : TypeId} (ih : EqSim P σ d) {xs ys : List AV} {xs' ys' : List Value} (hx : VRs σ xs xs') (hy : VRs σ ys ys') (w : World) : ∀ (n i : Nat) (r : Bool),
    aeqItems P (aeqIn P d) e sz xs ys n i = some r → (Op.eqItems d e sz xs'.toArray ys'.toArray (List.range' i n)).run P w = .ok r w
  | 0, i, r, ha => by simp [aeqItems] at ha; subst ha; rfl
  | n + 1, i, r, ha => by
    unfold aeqItems at ha
    simp only [Option.bind_eq_some_iff] at ha
    obtain ⟨a, ha1, b, hb1, r1, hr1, ha⟩ := ha
    obtain ⟨a', e1, e2⟩ := sim_part hx ha1 w
    obtain ⟨b', e3, e4⟩ := sim_part hy hb1 w
    have e5 := ih e a b a' b' r1 w e2 e4 hr1
    rw [List.range'_succ]
    unfold Op.eqItems
    simp only [Sem.run_bind, e1, e3, e5, Result.andThen_ok]
    simp only [Option.map_eq_some_iff] at ha
    obtain ⟨s, hs, rfl⟩ := ha
    cases r1 with
    | false => simp
    | true => simpa using sim_eqItems ih hx hy w n (i + 1) s hs

theorem sim_eqIn : ∀ d, EqSim P σ d
  | 0 => fun _ _ _ _ _ _ _ _ _ ha => by simp [aeqIn] at ha
  | d + 1 => by
    intro t x y x' y' r w hx hy ha
    have ih := sim_eqIn d
    unfold aeqIn at ha
    split at ha
    · rename_i hu; simp at ha; subst ha; cases hx; cases hy; simp [Op.equalIn, run_underlying hu]
    · rename_i hu
      split at ha
      · rename_i hk; simp at ha; subst ha; cases hx; cases hy; simp [Op.equalIn, run_underlying hu, hk]
      · simp at ha
    · rename_i hu; simp at ha; subst ha; cases hx; cases hy
      rename_i s1 s2
      simp only [Op.equalIn, Sem.run_bind, run_underlying hu, Result.andThen_ok, Sem.run_pure]
      congr 1
      rw [beq_toListBytes, ByteArray.toList_eq, ByteArray.toList_eq, Bool.eq_iff_iff]
      simp
    · rename_i hu; simp at ha; subst ha; cases hx; cases hy <;> simp [Op.equalIn, run_underlying hu]
    · rename_i hu; simp at ha; subst ha; cases hx; cases hy; simp [Op.equalIn, run_underlying hu]
    · rename_i hu; simp at ha; subst ha; cases hx; cases hy; simp [Op.equalIn, run_underlying hu]
    · rename_i hu
      split at ha
      · simp at ha; subst ha; cases hx; cases hy
        simp [Op.equalIn, run_underlying hu]
      · split at ha
        · rename_i hl; simp at ha; subst ha; cases hx; cases hy
          · simp [Op.equalIn, run_underlying hu]
          · omega
        · simp at ha
    · rename_i hu
      split at ha
      · simp at ha; subst ha; cases hy; cases hx
        simp [Op.equalIn, run_underlying hu]
      · split at ha
        · rename_i hl; simp at ha; subst ha; cases hy; cases hx
          · simp [Op.equalIn, run_underlying hu]
          · omega
        · simp at ha
    · rename_i hu; simp at ha; subst ha; cases hx; cases hy <;> simp [Op.equalIn, run_underlying hu]
    · rename_i hu; simp at ha; subst ha; cases hx; cases hy; simp [Op.equalIn, run_underlying hu]
    · rename_i hu; simp at ha; subst ha; cases hx; cases hy; simp [Op.equalIn, run_underlying hu]
    · rename_i hu; simp at ha; subst ha; cases hx; cases hy <;> simp [Op.equalIn, run_underlying hu]
    · rename_i hu; simp at ha; subst ha; cases hy; cases hx <;> simp [Op.equalIn, run_underlying hu]
    · rename_i fs xs ys hu
      split at ha
      · simp at ha
      · rename_i hst
        cases hx with
        | agg _ m1 h1 =>
        cases hy with
        | agg _ m2 h2 =>
        have hfs : P.fieldsOf t = fs := by simp [Program.fieldsOf, hu]
        rw [run_equalIn_struct w d t _ _ (by rw [hfs]; exact hu) (by simpa using hst), hfs]
        exact sim_eqFields ih h1 h2 w _ _ ha
    · rename_i n e xs ys hu
      split at ha
      · rename_i sz hsz
        cases hx with
        | agg _ m1 h1 =>
        cases hy with
        | agg _ m2 h2 =>
        unfold sizeA at hsz
        simp only [Option.map_eq_some_iff] at hsz
        obtain ⟨i, hi, rfl⟩ := hsz
        have hc : P.cellsOf e = i.size := by simp [Program.cellsOf, hi]
        rw [run_equalIn_array w d _ _ hu hi, hc, List.range_eq_range']
        exact sim_eqItems ih h1 h2 w _ _ _ ha
      · simp at ha
    · simp at ha

/-! ### Numbers, texts, comparisons -/

theorem sim_un {op : UnOp} {x v : AV} {x' : Value} (hx : VR σ x x') (ha : aun op x = some v) (w : World) : ∃ v', (Op.unary op x').run P w = .ok v' w ∧ VR σ v v' := by
  unfold aun at ha
  split at ha
  · simp at ha; subst ha; cases hx; exact ⟨_, by simp [Op.unary, Op.intArith], .int _ _⟩
  · simp at ha; subst ha; cases hx; exact ⟨_, by simp [Op.unary, Op.intBits, abits], .int _ _⟩
  · simp at ha; subst ha; cases hx; exact ⟨_, by simp [Op.unary], .bool _⟩
  · simp at ha

theorem sim_int2 {op : BinOp} {k : IntKind} {a b : Int} {v : AV} {t : TypeId} (ha : aint2 op k a b = some v) (w : World) : ∃ v', (binOp op t (.int k a) (.int k b)).run P w = .ok v' w ∧ VR σ v v' := by
  cases op <;> simp [aint2] at ha
  case quo => obtain ⟨h0, rfl⟩ := ha; exact ⟨_, by simp [binOp, Op.intDiv, h0], .int _ _⟩
  case rem => obtain ⟨h0, rfl⟩ := ha; exact ⟨_, by simp [binOp, Op.intDiv, h0], .int _ _⟩
  all_goals (subst ha)
  case add => exact ⟨_, by simp [binOp, Op.intArith], .int _ _⟩
  case sub => exact ⟨_, by simp [binOp, Op.intArith], .int _ _⟩
  case mul => exact ⟨_, by simp [binOp, Op.intArith], .int _ _⟩
  case and => exact ⟨_, by simp [binOp, Op.intBits, abits], .int _ _⟩
  case or => exact ⟨_, by simp [binOp, Op.intBits, abits], .int _ _⟩
  case xor => exact ⟨_, by simp [binOp, Op.intBits, abits], .int _ _⟩
  case andNot => exact ⟨_, by simp [binOp, Op.intBits, abits], .int _ _⟩
  all_goals exact ⟨_, by simp [binOp, Op.intCmp], .bool _⟩

theorem eqGuard_int {op : BinOp} {t : TypeId} {x y : Operand} {k : IntKind} {a : Int} {v : Value} (w : World) : (eqGuard op t x y (.int k a) v).run P w = .ok () w := by
  cases op <;> rfl
theorem eqGuard_str {op : BinOp} {t : TypeId} {x y : Operand} {s : ByteArray} {v : Value} (w : World) : (eqGuard op t x y (.string s) v).run P w = .ok () w := by
  cases op <;> rfl

theorem toList_bytes (s : ByteArray) : s.toList = s.data.toList := by
  rw [ByteArray.toList_eq]

/-- Two of which == is told, no numbers, no texts, no structs. -/
theorem sim_other {op : BinOp} {t : TypeId} {x y v : AV} {x' y' : Value} {xo yo : Operand} (hx : VR σ x x') (hy : VR σ y y') (hni : ∀ k n, x ≠ .int k n) (hns : ∀ s, x ≠ .str s) (hna : ∀ l, x ≠ .agg l)
    (ha : (match op with
      | .eql => (aeqIn P 10000 t x y).map AV.bool
      | .neq => (aeqIn P 10000 t x y).map fun r => AV.bool (!r)
      | _ => none) = some v) (w : World) : ∃ v', (do eqGuard op t xo yo x' y'; binOp op t x' y' : Sem Value).run P w = .ok v' w ∧ VR σ v v' := by
  have key : ∀ r, aeqIn P 10000 t x y = some r → (Op.equal t x' y').run P w = .ok r w := fun r hr => sim_eqIn 10000 t x y x' y' r w hx hy hr
  have shape : ∀ r, aeqIn P 10000 t x y = some r → (eqGuard op t xo yo x' y').run P w = .ok () w ∧ (op = .eql → binOp op t x' y' = (do pure (.bool (← Op.equal t x' y')))) ∧ (op = .neq → binOp op t x' y' = (do pure (.bool (!(← Op.equal t x' y'))))) := by
    intro r hr
    unfold aeqIn at hr
    split at hr
    · cases hx; cases hy; cases op <;> exact ⟨rfl, (fun h => by first | rfl | cases h), (fun h => by first | rfl | cases h)⟩
    · exact absurd rfl (hni _ _)
    · exact absurd rfl (hns _)
    · cases hx; cases hy <;> cases op <;> exact ⟨rfl, (fun h => by first | rfl | cases h), (fun h => by first | rfl | cases h)⟩
    · cases hx; cases hy; cases op <;> exact ⟨rfl, (fun h => by first | rfl | cases h), (fun h => by first | rfl | cases h)⟩
    · cases hx; cases hy; cases op <;> exact ⟨rfl, (fun h => by first | rfl | cases h), (fun h => by first | rfl | cases h)⟩
    · cases hx; cases hy
      · cases op <;> exact ⟨rfl, (fun h => by first | rfl | cases h), (fun h => by first | rfl | cases h)⟩
      · simp at hr
    · cases hy; cases hx
      · cases op <;> exact ⟨rfl, (fun h => by first | rfl | cases h), (fun h => by first | rfl | cases h)⟩
      · simp at hr
    · cases hx; cases hy <;> cases op <;> exact ⟨rfl, (fun h => by first | rfl | cases h), (fun h => by first | rfl | cases h)⟩
    · cases hx; cases hy; cases op <;> exact ⟨rfl, (fun h => by first | rfl | cases h), (fun h => by first | rfl | cases h)⟩
    · cases hx; cases hy; cases op <;> exact ⟨rfl, (fun h => by first | rfl | cases h), (fun h => by first | rfl | cases h)⟩
    · cases hx; cases hy <;> cases op <;> exact ⟨rfl, (fun h => by first | rfl | cases h), (fun h => by first | rfl | cases h)⟩
    · cases hy; cases hx <;> cases op <;> exact ⟨rfl, (fun h => by first | rfl | cases h), (fun h => by first | rfl | cases h)⟩
    · exact absurd rfl (hna _)
    · exact absurd rfl (hna _)
    · simp at hr
  cases op
  case eql =>
    simp only [Option.map_eq_some_iff] at ha
    obtain ⟨r, hr, rfl⟩ := ha
    obtain ⟨h1, h2, _⟩ := shape r hr
    exact ⟨_, by simp only [h1, h2 rfl, key r hr, Sem.run_bind, Result.andThen_ok, Sem.run_pure], .bool _⟩
  case neq =>
    simp only [Option.map_eq_some_iff] at ha
    obtain ⟨r, hr, rfl⟩ := ha
    obtain ⟨h1, _, h2⟩ := shape r hr
    exact ⟨_, by simp only [h1, h2 rfl, key r hr, Sem.run_bind, Result.andThen_ok, Sem.run_pure], .bool _⟩
  all_goals (simp at ha)

theorem sim_bin {op : BinOp} {t : TypeId} {x y v : AV} {x' y' : Value} {xo yo : Operand} (hx : VR σ x x') (hy : VR σ y y') (ha : abin P op t x y = some v) (w : World) :
    ∃ v', (do eqGuard op t xo yo x' y'; binOp op t x' y' : Sem Value).run P w = .ok v' w ∧ VR σ v v' := by
  unfold abin at ha
  split at ha
  · rename_i k a k' b
    cases hx; cases hy
    split at ha
    · split at ha
      · simp at ha
      · rename_i hb
        simp at ha; subst ha
        exact ⟨_, by simp [eqGuard, binOp, Op.shift, hb], .int _ _⟩
    · split at ha
      · simp at ha
      · rename_i hb
        simp at ha; subst ha
        exact ⟨_, by simp [eqGuard, binOp, Op.shift, hb], .int _ _⟩
    · split at ha
      · rename_i hk
        subst hk
        obtain ⟨v', h1, h2⟩ := sim_int2 (P := P) (σ := σ) (t := t) ha w
        exact ⟨v', by simp only [Sem.run_bind, eqGuard_int, Result.andThen_ok, h1], h2⟩
      · simp at ha
  · rename_i a b
    cases hx with
    | str s1 =>
    cases hy with
    | str s2 =>
    have heq : (s1.toList == s2.toList) = decide (s1.data.toList = s2.data.toList) := by
      rw [toList_bytes, toList_bytes, Bool.eq_iff_iff]; simp
    split at ha
    · split at ha
      · rename_i hl
        simp at ha; subst ha
        have hno : ¬ (((s1.size + s2.size : Nat) : Int) > IntKind.i64.max) := by
          have : IntKind.i64.max = 9223372036854775807 := by rfl
          simp at hl; omega
        refine ⟨.string (s1 ++ s2), ?_, ?_⟩
        · simp only [eqGuard_str, Sem.run_bind, Result.andThen_ok, binOp, Op.stringOp, Sem.run_ite]
          rw [if_neg hno]; rfl
        · have := VR.str (σ := σ) (s1 ++ s2)
          simpa [ByteArray.data_append] using this
      · simp at ha
    · simp only [Option.some.injEq] at ha; subst ha
      exact ⟨_, by simp only [eqGuard_str, Sem.run_bind, Result.andThen_ok, binOp, Op.stringOp, Sem.run_pure]; rw [heq], .bool _⟩
    · simp only [Option.some.injEq] at ha; subst ha
      exact ⟨_, by simp only [eqGuard_str, Sem.run_bind, Result.andThen_ok, binOp, Op.stringOp, Sem.run_pure]; rw [heq], .bool _⟩
    · simp at ha
  · rename_i a b
    split at ha
    · simp at ha
    · rename_i hg
      cases hx with
      | agg _ m1 h1 =>
      cases hy with
      | agg _ m2 h2 =>
      have hgd : (eqGuard op t xo yo (.agg m1.toArray) (.agg m2.toArray)).run P w = .ok () w := run_eqGuard_agg w op t xo yo _ _ (by simpa using hg)
      have key : ∀ r, aeqIn P 10000 t (.agg a) (.agg b) = some r → (Op.equal t (.agg m1.toArray) (.agg m2.toArray)).run P w = .ok r w := fun r hr => sim_eqIn 10000 t _ _ _ _ r w (.agg _ _ h1) (.agg _ _ h2) hr
      split at ha
      · simp only [Option.map_eq_some_iff] at ha
        obtain ⟨r, hr, rfl⟩ := ha
        exact ⟨_, by simp only [hgd, Sem.run_bind, Result.andThen_ok, binOp, key r hr, Sem.run_pure], .bool _⟩
      · simp only [Option.map_eq_some_iff] at ha
        obtain ⟨r, hr, rfl⟩ := ha
        exact ⟨_, by simp only [hgd, Sem.run_bind, Result.andThen_ok, binOp, key r hr, Sem.run_pure], .bool _⟩
      · simp at ha
  · rename_i h1 h2 h3
    by_cases hni : ∃ k n, x = .int k n
    · obtain ⟨k, n, rfl⟩ := hni
      exfalso
      split at ha <;> simp only [Option.map_eq_some_iff, reduceCtorEq] at ha
      all_goals
        obtain ⟨r, hr, _⟩ := ha
        unfold aeqIn at hr
        split at hr <;> first | exact h1 _ _ _ _ rfl rfl | exact h2 _ _ rfl rfl | exact h3 _ _ rfl rfl | simp_all
    · by_cases hns : ∃ s, x = .str s
      · obtain ⟨s, rfl⟩ := hns
        exfalso
        split at ha <;> simp only [Option.map_eq_some_iff, reduceCtorEq] at ha
        all_goals
          obtain ⟨r, hr, _⟩ := ha
          unfold aeqIn at hr
          split at hr <;> first | exact h1 _ _ _ _ rfl rfl | exact h2 _ _ rfl rfl | exact h3 _ _ rfl rfl | simp_all
      · by_cases hna : ∃ l, x = .agg l
        · obtain ⟨l, rfl⟩ := hna
          exfalso
          split at ha <;> simp only [Option.map_eq_some_iff, reduceCtorEq] at ha
          all_goals
            obtain ⟨r, hr, _⟩ := ha
            unfold aeqIn at hr
            split at hr <;> first | exact h1 _ _ _ _ rfl rfl | exact h2 _ _ rfl rfl | exact h3 _ _ rfl rfl | simp_all
        · exact sim_other hx hy (fun k n e => hni ⟨k, n, e⟩) (fun s e => hns ⟨s, e⟩) (fun l e => hna ⟨l, e⟩) ha w

end Go.Abs
