/- A law's call: arguments by type. -/
import Derived.Test.YtmlenlfhciapfaaFix
set_option autoImplicit false
set_option linter.unusedVariables false
namespace Go.Abs
open Go.ChangeShapes Go.RowKit Go.WideShapes
variable {H : Type} {enc : TypeId × Value → H} {P : Program}

theorem FitsK.ints {k : IntKind} : ∀ {n : Nat} {m : List AV}, FitsK (List.replicate n (.int k)) m → ∃ zs : List Int, zs.length = n ∧ m = zs.map (AV.int k) ∧ ∀ z ∈ zs, (Lit.int k z).wf = true
  | 0, _, .nil => ⟨[], rfl, rfl, by simp⟩
  | n + 1, m, h => by
    rw [List.replicate_succ] at h
    cases h with
    | int _ z hw _ m t =>
    obtain ⟨zs, h1, h2, h3⟩ := t.ints
    refine ⟨z :: zs, by simp [h1], by simp [h2], ?_⟩
    intro y hy
    rcases List.mem_cons.1 hy with rfl | hy
    · exact hw
    · exact h3 y hy

theorem byte_wf {z : Int} (h : (Lit.int .u8 z).wf = true) : 0 ≤ z ∧ z < 256 := by
  simp [Lit.wf, IntKind.min, IntKind.max, IntKind.signed, IntKind.bits] at h; omega
theorem u16_wf {z : Int} (h : (Lit.int .u16 z).wf = true) : 0 ≤ z ∧ z < 65536 := by
  simp [Lit.wf, IntKind.min, IntKind.max, IntKind.signed, IntKind.bits] at h; omega
theorem u32_wf {z : Int} (h : (Lit.int .u32 z).wf = true) : 0 ≤ z ∧ z < 4294967296 := by
  simp [Lit.wf, IntKind.min, IntKind.max, IntKind.signed, IntKind.bits] at h; omega
theorem u64_wf {z : Int} (h : (Lit.int .u64 z).wf = true) : 0 ≤ z ∧ z < 18446744073709551616 := by
  simp [Lit.wf, IntKind.min, IntKind.max, IntKind.signed, IntKind.bits] at h; omega
theorem i64_wf {z : Int} (h : (Lit.int .i64 z).wf = true) : -9223372036854775808 ≤ z ∧ z < 9223372036854775808 := by
  simp [Lit.wf, IntKind.min, IntKind.max, IntKind.signed, IntKind.bits] at h; omega

theorem ints_bytes : ∀ {zs : List Int}, (∀ z ∈ zs, (Lit.int .u8 z).wf = true) → zs.map (AV.int .u8) = bys (zs.map u8i)
  | [], _ => rfl
  | z :: zs, h => by
    rw [List.map_cons, List.map_cons, bys_cons, ints_bytes fun y hy => h y (by simp [hy])]
    have := byte_wf (h z (by simp))
    rw [u8i_toNat]
    congr 2; omega

theorem rows_bytes : ∀ {rows : List (List AV)}, (∀ r ∈ rows, FitsK [.int .u8] r) → ∃ l : List UInt8, rows.flatten = bys l ∧ rows.length = l.length
  | [], _ => ⟨[], rfl, rfl⟩
  | r :: rows, h => by
    obtain ⟨l, h1, h2⟩ := rows_bytes (rows := rows) fun q hq => h q (List.mem_cons_of_mem _ hq)
    have hr := h r (by simp)
    cases hr with
    | int _ z hw _ m t =>
    cases t
    have := byte_wf hw
    refine ⟨u8i z :: l, ?_, by simp [h2]⟩
    rw [List.flatten_cons, h1, bys_cons, u8i_toNat]
    simp only [List.cons_append, List.nil_append]
    congr 2; omega

/-- Rows of integers. -/
theorem rows_ints {k : IntKind} : ∀ {rows : List (List AV)}, (∀ r ∈ rows, FitsK [.int k] r) → ∃ l : List Int, rows.flatten = l.map (AV.int k) ∧ rows.length = l.length ∧ ∀ z ∈ l, (Lit.int k z).wf = true
  | [], _ => ⟨[], rfl, rfl, by simp⟩
  | r :: rows, h => by
    obtain ⟨l, h1, h2, h3⟩ := rows_ints (rows := rows) fun q hq => h q (List.mem_cons_of_mem _ hq)
    have hr := h r (by simp)
    cases hr with
    | int _ z hw _ m t =>
    cases t
    refine ⟨z :: l, ?_, by simp [h2], ?_⟩
    · rw [List.flatten_cons, h1]; rfl
    · intro y hy
      rcases List.mem_cons.1 hy with rfl | hy
      · exact hw
      · exact h3 y hy
theorem rows_bools : ∀ {rows : List (List AV)}, (∀ r ∈ rows, FitsK [.bool] r) → ∃ l : List Bool, rows.flatten = l.map AV.bool ∧ rows.length = l.length
  | [], _ => ⟨[], rfl, rfl⟩
  | r :: rows, h => by
    obtain ⟨l, h1, h2⟩ := rows_bools (rows := rows) fun q hq => h q (List.mem_cons_of_mem _ hq)
    have hr := h r (by simp)
    cases hr with
    | bool z _ m t =>
    cases t
    refine ⟨z :: l, ?_, by simp [h2]⟩
    rw [List.flatten_cons, h1]; rfl

variable {W : World} {σ : Sig} {h : AHeap} {avs : List AV} {vs : List Value}

theorem Args.aInt (A : Args W σ h avs vs) {t : TypeId} {k : IntKind} {v : Value} {d : DataW H} {ps : List MemPlace} (hk : flatK P 10 t = some [.int k]) (hu : P.underlying t = some (.int k))
    (hval : Value.okWide P W .any 0 t v) (hd : DataW.Trod enc P W 0 (fun _ => true) true t v d ps) : ∃ n, (Lit.int k n).wf = true ∧ Args W σ h (avs ++ [.int k n]) (vs ++ [v]) := by
  obtain ⟨l, hl, A'⟩ := A.plain hk hval hd
  cases hl with
  | int _ n hw _ m t =>
  cases t
  rw [hu] at A'
  exact ⟨n, hw, A'⟩

theorem Args.aBool (A : Args W σ h avs vs) {t : TypeId} {v : Value} {d : DataW H} {ps : List MemPlace} (hk : flatK P 10 t = some [.bool]) (hu : P.underlying t = some .bool)
    (hval : Value.okWide P W .any 0 t v) (hd : DataW.Trod enc P W 0 (fun _ => true) true t v d ps) : ∃ b, Args W σ h (avs ++ [.bool b]) (vs ++ [v]) := by
  obtain ⟨l, hl, A'⟩ := A.plain hk hval hd
  cases hl with
  | bool n _ m t =>
  cases t
  rw [hu] at A'
  exact ⟨n, A'⟩

/-- A struct's cells. -/
theorem Args.aStruct (A : Args W σ h avs vs) {t : TypeId} {ks : List CK} {fs : Array Field} {v : Value} {d : DataW H} {ps : List MemPlace} (hk : flatK P 10 t = some ks) (hu : P.underlying t = some (.struct fs))
    (hval : Value.okWide P W .any 0 t v) (hd : DataW.Trod enc P W 0 (fun _ => true) true t v d ps) : ∃ l, FitsK ks l ∧ Args W σ h (avs ++ [.agg l]) (vs ++ [v]) := by
  obtain ⟨l, hl, A'⟩ := A.plain hk hval hd
  rw [hu] at A'
  exact ⟨l, hl, A'⟩

theorem Args.aBytes (A : Args W σ h avs vs) {t e : TypeId} {v : Value} {d : DataW H} {ps : List MemPlace} (ht : P.underlying t = some (.slice e)) (hk : flatK P 10 e = some [.int .u8])
    (hval : Value.okWide P W .any 0 t v) (hd : DataW.Trod enc P W 0 (fun _ => true) true t v d ps) : ∃ σ' l, l.length ≤ maxLen ∧ Args W σ' (h ++ [farB l]) (avs ++ [slB h.length l]) (vs ++ [v]) := by
  obtain ⟨σ', rows, h1, h2, A'⟩ := A.row ht hk (by simp) hval hd
  obtain ⟨l, h3, h4⟩ := rows_bytes h1
  rw [h3, h4] at A'
  rw [h4] at h2
  exact ⟨σ', l, h2, A'⟩

theorem Args.aInts (A : Args W σ h avs vs) {t e : TypeId} {k : IntKind} {v : Value} {d : DataW H} {ps : List MemPlace} (ht : P.underlying t = some (.slice e)) (hk : flatK P 10 e = some [.int k])
    (hval : Value.okWide P W .any 0 t v) (hd : DataW.Trod enc P W 0 (fun _ => true) true t v d ps) :
    ∃ σ', ∃ l : List Int, l.length ≤ maxLen ∧ (∀ z ∈ l, (Lit.int k z).wf = true) ∧ Args W σ' (h ++ [.cells (l.map (AV.int k)) 1 .far none]) (avs ++ [.sl (some (h.length, 0)) l.length 0 false]) (vs ++ [v]) := by
  obtain ⟨σ', rows, h1, h2, A'⟩ := A.row ht hk (by simp) hval hd
  obtain ⟨l, h3, h4, h5⟩ := rows_ints h1
  rw [h3, h4] at A'
  rw [h4] at h2
  exact ⟨σ', l, h2, h5, A'⟩
theorem Args.aBools (A : Args W σ h avs vs) {t e : TypeId} {v : Value} {d : DataW H} {ps : List MemPlace} (ht : P.underlying t = some (.slice e)) (hk : flatK P 10 e = some [.bool])
    (hval : Value.okWide P W .any 0 t v) (hd : DataW.Trod enc P W 0 (fun _ => true) true t v d ps) :
    ∃ σ', ∃ l : List Bool, l.length ≤ maxLen ∧ Args W σ' (h ++ [.cells (l.map AV.bool) 1 .far none]) (avs ++ [.sl (some (h.length, 0)) l.length 0 false]) (vs ++ [v]) := by
  obtain ⟨σ', rows, h1, h2, A'⟩ := A.row ht hk (by simp) hval hd
  obtain ⟨l, h3, h4⟩ := rows_bools h1
  rw [h3, h4] at A'
  rw [h4] at h2
  exact ⟨σ', l, h2, A'⟩

/-- A law that is run and hands back true. -/
theorem runs_true {f : FuncId} {args : Array Value} (A : Args W σ h avs args.toList) {h' : AHeap} (hr : Runs P f avs h (.bool true) h') : Calls P f args W fun e W' => e = .returned (.bool true) ∧ Below W.heap.size W W' := by
  obtain ⟨E, hE, hx⟩ := hr
  exact calls_true hE hx A.rel A.vrs

theorem addr_fits {m : List AV} (h : FitsK (.bool :: List.replicate 16 (.int .u8)) m) : ∃ v X, m = .bool v :: bys X ∧ X.length = 16 := by
  cases h with
  | bool v _ m t =>
  obtain ⟨zs, h1, h2, h3⟩ := t.ints
  exact ⟨v, zs.map u8i, by rw [h2, ints_bytes h3], by simp [h1]⟩

/-! ### Calls whose answers are told: what is to be shown of each stands as it is -/

inductive Says (e : GEnt) (args : List AV) (h : AHeap) (v : AV) (new : AHeap) : Prop
  | mk (H : e args h = some (true, v, h ++ new)) : Says e args h v new
noncomputable def eSay (e : GEnt) (l : List (Nat × AV × AHeap)) : GEnt := fun args h => match toldAt l h.length with
  | some (v, new) => some (cdec (Says e args h v new), v, h ++ new)
  | none => none
theorem sSay {f : FuncId} {e : GEnt} (h : SoundE P f (entF e)) (l : List (Nat × AV × AHeap)) : SoundE P f (entF (eSay e l)) := by
  refine entF_sound h fun args hp v h' hg => ?_
  unfold eSay at hg
  split at hg
  · simp only [Option.some.injEq, Prod.mk.injEq] at hg
    obtain ⟨hc, rfl, rfl⟩ := hg
    rw [cdec_true] at hc
    obtain ⟨he⟩ := hc
    change eRun e args hp (fun v h => some (v, h)) = _
    unfold eRun; rw [he]; rfl
  · simp at hg

/-- Calls that write: what each block that they change is then. -/
inductive SaysH (e : GEnt) (args : List AV) (h : AHeap) (v : AV) (h' : AHeap) : Prop
  | mk (H : e args h = some (true, v, h')) : SaysH e args h v h'
def edit : List (Nat × ABlk) → AHeap → AHeap
  | [], h => h
  | (i, b) :: l, h => edit l (h.set i b)
def toldH : List (Nat × AV × List (Nat × ABlk) × AHeap) → Nat → Option (AV × List (Nat × ABlk) × AHeap)
  | [], _ => none
  | (k, x) :: l, n => bif k.beq n then some x else toldH l n
noncomputable def eSayH (e : GEnt) (l : List (Nat × AV × List (Nat × ABlk) × AHeap)) : GEnt := fun args h => match toldH l h.length with
  | some (v, ed, new) => some (cdec (SaysH e args h v (edit ed h ++ new)), v, edit ed h ++ new)
  | none => none
theorem sSayH {f : FuncId} {e : GEnt} (h : SoundE P f (entF e)) (l : List (Nat × AV × List (Nat × ABlk) × AHeap)) : SoundE P f (entF (eSayH e l)) := by
  refine entF_sound h fun args hp v h' hg => ?_
  unfold eSayH at hg
  split at hg
  · simp only [Option.some.injEq, Prod.mk.injEq] at hg
    obtain ⟨hc, rfl, rfl⟩ := hg
    rw [cdec_true] at hc
    obtain ⟨he⟩ := hc
    change eRun e args hp (fun v h => some (v, h)) = _
    unfold eRun; rw [he]; rfl
  · simp at hg

/-- A byte, in short. -/
abbrev b8 (n : Int) : AV := .int .u8 n

/-- Told by the block of the first row among its arguments; memory stays. -/
def idxOf : List AV → Option Nat
  | .sl (some (i, _)) _ _ _ :: _ => some i
  | _ :: .sl (some (i, _)) _ _ _ :: _ => some i
  | _ => none
def toldI : List (Nat × AV) → Nat → Option AV
  | [], _ => none
  | (k, x) :: l, n => bif k.beq n then some x else toldI l n
noncomputable def eSayI (e : GEnt) (l : List (Nat × AV)) : GEnt := fun args h => match (idxOf args).bind (toldI l) with
  | some v => some (cdec (Says e args h v []), v, h)
  | none => none
theorem sSayI {f : FuncId} {e : GEnt} (h : SoundE P f (entF e)) (l : List (Nat × AV)) : SoundE P f (entF (eSayI e l)) := by
  refine entF_sound h fun args hp v h' hg => ?_
  unfold eSayI at hg
  split at hg
  · simp only [Option.some.injEq, Prod.mk.injEq] at hg
    obtain ⟨hc, rfl, rfl⟩ := hg
    rw [cdec_true] at hc
    obtain ⟨he⟩ := hc
    change eRun e args hp (fun v h => some (v, h)) = _
    unfold eRun; rw [he, List.append_nil]; rfl
  · simp at hg

end Go.Abs
