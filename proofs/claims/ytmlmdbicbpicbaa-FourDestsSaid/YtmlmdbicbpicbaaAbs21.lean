/- A law's call: its arguments, told; its end. -/
import Derived.Test.YtmlmdbicbpicbaaAbs20
import Derived.ChangeSame
import Derived.ChangeSlices
import Derived.Carry
import Derived.RowKit
import Derived.OpenShut
set_option autoImplicit false
set_option linter.unusedVariables false
set_option linter.unusedSimpArgs false
namespace Go.Abs
open Go.ChangeShapes Go.RowKit Go.WideShapes
variable {H : Type} {enc : TypeId × Value → H} {P : Program}

theorem trodAll_below {W W' : World} (hl : laidOutB P = true) (hb : Below W.heap.size W W') : ∀ {ts : List TypeId} {vs : List Value} {ds : List (DataW H)} {ps : List MemPlace},
    (∀ t ∈ ts, P.readableRec t = true ∧ t < P.types.size) → DataW.TrodAll enc P W 0 (fun _ => true) true ts vs ds ps → (∀ x ∈ ps, x.block < W.heap.size) →
    DataW.TrodAll enc P W' 0 (fun b => decide (b < W.heap.size)) true ts vs ds ps
  | [], [], [], _, _, h, _ => h
  | _ :: _, _ :: _, _ :: _, _, hT, ⟨p, q, h1, h2, e⟩, hs =>
    ⟨p, q, Below.trod hl (hT _ (by simp)).1 (hT _ (by simp)).2 h1 hb (fun x hx => hs x (by rw [e]; exact List.mem_append_left _ hx)),
      trodAll_below hl hb (fun t ht => hT t (List.mem_cons_of_mem _ ht)) h2 (fun x hx => hs x (by rw [e]; exact List.mem_append_right _ hx)), e⟩

/-- The end of a law that hands back true and leaves what came in. -/
theorem law_post {f : Func} {s : ChangeSpec} {W W' : World} {args : Array Value} {ds gs : List (DataW H)} {before : List MemPlace} {tb : TypeId}
    (hW : DataW.Whole enc P f.params.toList s.vars false W args.toList ds gs before) (hv : s.vars = []) (hs : ∀ gs' : List (DataW H), gs' = [] → s.fn H (ds ++ gs') = { results := [.lit (.bool true)], args := ds })
    (hrt : f.resultTypes = #[tb]) (htb : P.underlying tb = some .bool) (hl : laidOutB P = true) (hp : ∀ t ∈ f.params.toList, P.readableRec t = true ∧ t < P.types.size) (hb : Below W.heap.size W W') :
    s.post enc P f false true false false W args (.bool true) W' := by
  have hlt := hW.lt
  have hW' := hW
  obtain ⟨p, q, hA, hV, rfl, hfz, _⟩ := hW
  rw [hv] at hV
  obtain ⟨rfl, rfl⟩ := trodVars_none hV
  have hs' := hs [] rfl
  refine ⟨ds, [], p ++ [], [], p, [], hW', ?_, ?_, ?_, hb.frame _, fun h => by cases h⟩
  · rw [hs', hrt]
    exact trodAll_mk1 (shut_bool htb true)
  · rw [hs']
    exact trodAll_below hl hb hp hA fun x hx => hlt x (by simp [hx])
  · rw [hs', hv]; exact hV

/-- A call that the interpreter says hands back true. -/
theorem calls_true {f : FuncId} {E : Ent} (hE : SoundE P f E) {W : World} {σ : Sig} {h h' : AHeap} {avs : List AV} {args : Array Value} (hx : E.get avs h = some (.bool true, h')) (R : Rel W σ h W) (hv : VRs σ avs args.toList) :
    Calls P f args W fun e W' => e = .returned (.bool true) ∧ Below W.heap.size W W' := by
  obtain ⟨_, hc⟩ := hE hx R hv
  refine (callsIn_wide (n := 0)).1 (CallsIn.mono (hc 0) fun e w' hr => ?_)
  obtain ⟨v', σ', rfl, _, R', hv'⟩ := hr
  exact ⟨by rw [hv'.bool_inv], R'.below⟩

/-! ### What came in -/

theorem Rel.nothing (W : World) : Rel W [] [] W :=
  ⟨rfl, fun h _ => by simp at h, fun h _ => by simp at h, fun h _ => by simp at h, fun _ h => by simp at h, RowKit.Below.refl _ _⟩

/-- One more row of the caller's. -/
theorem Rel.far1 {W : World} {σ : Sig} {h : AHeap} {w : World} (R : Rel W σ h w) {vs : List AV} {e : Nat} {p : Plc} (ho : ∀ σ, ObjR σ p w (.cells vs e .far none)) (hlt : vs ≠ [] → p.blk < W.heap.size) :
    Rel W (σ ++ [p]) (h ++ [.cells vs e .far none]) w := by
  have key : ∀ {j : Nat} {b : ABlk} {q : Plc}, (h ++ [ABlk.cells vs e .far none])[j]? = some b → (σ ++ [p])[j]? = some q → (h[j]? = some b ∧ σ[j]? = some q) ∨ (j = h.length ∧ b = .cells vs e .far none ∧ q = p) := by
    intro j b q h1 h2
    rcases Nat.lt_or_ge j h.length with hi | hi
    · rw [List.getElem?_append_left hi] at h1
      rw [List.getElem?_append_left (by rw [R.len]; exact hi)] at h2
      exact .inl ⟨h1, h2⟩
    · have hi' := (List.getElem?_eq_some_iff.1 h1).1
      simp at hi'
      have e' : j = h.length := by omega
      subst e'
      rw [List.getElem?_append_right (by simp)] at h1
      rw [List.getElem?_append_right (by rw [R.len]; simp)] at h2
      simp [R.len] at h1 h2
      exact .inr ⟨rfl, h1.symm, h2.symm⟩
  refine ⟨by simp [R.len], fun h1 h2 => ?_, fun h1 h2 hvs => ?_, fun h1 h2 hm => ?_, fun hij h1 h2 h3 h4 m1 m2 => ?_, R.below⟩
  · rcases key h1 h2 with ⟨h1, h2⟩ | ⟨_, rfl, rfl⟩
    · exact (R.obj h1 h2).grow _
    · exact ho _
  · rcases key h1 h2 with ⟨h1, h2⟩ | ⟨_, e1, rfl⟩
    · exact R.far h1 h2 hvs
    · cases e1; exact hlt hvs
  · rcases key h1 h2 with ⟨h1, h2⟩ | ⟨_, rfl, rfl⟩
    · exact R.own h1 h2 hm
    · have := (mine_ne_nil hm).2; simp at this
  · rcases key h1 h3 with ⟨k1, k3⟩ | ⟨_, rfl, _⟩
    · rcases key h2 h4 with ⟨k2, k4⟩ | ⟨_, rfl, _⟩
      · exact R.sep hij k1 k2 k3 k4 m1 m2
      · have := (mine_ne_nil m2).2; simp at this
    · have := (mine_ne_nil m1).2; simp at this

/-- The arguments so far. -/
structure Args (W : World) (σ : Sig) (h : AHeap) (avs : List AV) (vs : List Value) : Prop where
  rel : Rel W σ h W
  vrs : VRs σ avs vs

theorem Args.nothing (W : World) : Args W [] [] [] [] := ⟨Rel.nothing W, .nil⟩

theorem VRs.snoc {σ : Sig} {l : List AV} {m : List Value} {a : AV} {v : Value} (h : VRs σ l m) (hv : VR σ a v) : VRs σ (l ++ [a]) (m ++ [v]) := h.append (.cons _ _ _ _ hv .nil)

/-- One more argument without memory. -/
theorem Args.flat {W : World} {σ : Sig} {h : AHeap} {avs : List AV} {vs : List Value} (A : Args W σ h avs vs) {a : AV} {v : Value} (hv : ∀ σ, VR σ a v) : Args W σ h (avs ++ [a]) (vs ++ [v]) :=
  ⟨A.rel, A.vrs.snoc (hv σ)⟩

/-- The cells of a row, as the world has them. -/
theorem cells_row {W : World} {a : Addr} {vs : List Value} (hv : vs ≠ []) (hc : ∀ (i : Nat) v, vs[i]? = some v → W.cell? (a.add i) = some v) :
    a.spot = none ∧ ∃ c t fr, W.heap[a.block]? = some (.cells c t fr) ∧ vs = (c.toList.drop a.off).take vs.length := by
  obtain ⟨b, o, sp⟩ := a
  have h0 : ∃ v, vs[0]? = some v := by
    cases vs with
    | nil => exact absurd rfl hv
    | cons v l => exact ⟨v, rfl⟩
  obtain ⟨v0, h0⟩ := h0
  have c0 := hc 0 v0 h0
  have e0 : (⟨b, o, sp⟩ : Addr).add 0 = ⟨b, o, sp⟩ := by simp [Addr.add]
  rw [e0] at c0
  unfold World.cell? at c0
  split at c0
  · rename_i c t fr hb
    simp only at hb
    cases sp with
    | some s => simp at c0
    | none =>
      refine ⟨rfl, c, t, fr, hb, ?_⟩
      apply List.ext_getElem?
      intro i
      rw [List.getElem?_take]
      split
      · rename_i hi
        rw [List.getElem?_drop]
        have h1 := hc i _ (List.getElem?_eq_getElem hi)
        rw [addr_add] at h1
        simp [World.cell?, hb] at h1
        rw [List.getElem?_eq_getElem hi]
        simpa using h1.symm
      · rename_i hi
        simp; omega
  · simp at c0

/-! ### What a type's cells are -/

inductive CK where
  | int (k : IntKind)
  | bool
  | str
  deriving DecidableEq

def flatFields (P : Program) (rec : TypeId → Option (List CK)) : List Field → Nat → Nat → Option (List CK)
  | [], o, n => if o = n then some [] else none
  | f :: fs, o, n =>
    match rec f.type with
    | some l => if f.offset = o ∧ P.cellsOf f.type = l.length then (flatFields P rec fs (o + l.length) n).map fun m => l ++ m else none
    | none => none

/-- The kinds of a type's cells, where it holds no address. -/
def flatK (P : Program) : Nat → TypeId → Option (List CK)
  | 0, _ => none
  | d + 1, t =>
    match P.underlying t with
    | some .bool => if P.cellsOf t = 1 then some [.bool] else none
    | some (.int k) => if P.cellsOf t = 1 then some [.int k] else none
    | some .string => if P.cellsOf t = 1 then some [.str] else none
    | some (.array n e) =>
      match flatK P d e with
      | some l => if P.cellsOf e = l.length ∧ P.cellsOf t = n * l.length then some (List.replicate n l).flatten else none
      | none => none
    | some (.struct fs) => flatFields P (flatK P d) fs.toList 0 (P.cellsOf t)
    | _ => none

/-- Values of these kinds. -/
inductive FitsK : List CK → List AV → Prop
  | nil : FitsK [] []
  | int (k : IntKind) (n : Int) (h : (Lit.int k n).wf = true) (l : List CK) (m : List AV) (t : FitsK l m) : FitsK (.int k :: l) (.int k n :: m)
  | bool (b : Bool) (l : List CK) (m : List AV) (t : FitsK l m) : FitsK (.bool :: l) (.bool b :: m)
  | str (s : List UInt8) (l : List CK) (m : List AV) (t : FitsK l m) : FitsK (.str :: l) (.str s :: m)

theorem FitsK.append : ∀ {l m l' m'}, FitsK l m → FitsK l' m' → FitsK (l ++ l') (m ++ m')
  | _, _, _, _, .nil, h => h
  | _, _, _, _, .int k n w l m t, h => .int k n w _ _ (t.append h)
  | _, _, _, _, .bool b l m t, h => .bool b _ _ (t.append h)
  | _, _, _, _, .str s l m t, h => .str s _ _ (t.append h)
theorem FitsK.length : ∀ {l m}, FitsK l m → m.length = l.length
  | _, _, .nil => rfl
  | _, _, .int k n w l m t => by simp [t.length]
  | _, _, .bool b l m t => by simp [t.length]
  | _, _, .str s l m t => by simp [t.length]
theorem FitsK.frees : ∀ {l m}, FitsK l m → AV.frees m = true
  | _, _, .nil => rfl
  | _, _, .int k n w l m t => by simp [AV.frees, AV.free, t.frees]
  | _, _, .bool b l m t => by simp [AV.frees, AV.free, t.frees]
  | _, _, .str s l m t => by simp [AV.frees, AV.free, t.frees]

def FlatOk (P : Program) (w : World) (enc : TypeId × Value → H) (t : TypeId) (ks : List CK) : Prop :=
  P.cellsOf t = ks.length ∧ ∀ {base : Nat} {spare : Nat → Bool} {held : Bool} {fuel : Nat} {cs : List Value} {x : DataW H × List MemPlace}, DataW.trod enc P w base spare held fuel t cs = some x → ∃ avs, FitsK ks avs ∧ ∀ σ, VRs σ avs cs

theorem flat_array {w : World} {l : List CK} {e : TypeId} (he : FlatOk P w enc e l) {base : Nat} {spare : Nat → Bool} {held : Bool} {m : Nat} : ∀ (n : Nat) (cs : List Value), cs.length = n * l.length →
    (∀ i, i < n → ∃ x, DataW.trod enc P w base spare held m e ((cs.drop (i * l.length)).take l.length) = some x) → ∃ avs, FitsK (List.replicate n l).flatten avs ∧ ∀ σ, VRs σ avs cs
  | 0, cs, hl, _ => by
    have : cs = [] := List.eq_nil_of_length_eq_zero (by simpa using hl)
    subst this
    exact ⟨[], .nil, fun _ => .nil⟩
  | n + 1, cs, hl, h => by
    obtain ⟨x, hx⟩ := h 0 (by omega)
    simp only [Nat.zero_mul, List.drop_zero] at hx
    obtain ⟨a1, f1, v1⟩ := he.2 hx
    obtain ⟨a2, f2, v2⟩ := flat_array he n (cs.drop l.length) (by rw [List.length_drop, hl, Nat.succ_mul]; omega) fun i hi => by
      obtain ⟨x, hx⟩ := h (i + 1) (by omega)
      refine ⟨x, ?_⟩
      rw [List.drop_drop, ← hx]
      congr 3
      rw [Nat.succ_mul]; omega
    refine ⟨a1 ++ a2, by simpa [List.replicate_succ] using f1.append f2, fun σ => ?_⟩
    have := (v1 σ).append (v2 σ)
    rwa [List.take_append_drop] at this

theorem flat_fields {w : World} {rec : TypeId → Option (List CK)} (hrec : ∀ {t : TypeId} {ks : List CK}, rec t = some ks → FlatOk P w enc t ks) : ∀ (fs : List Field) (o n : Nat) {ks : List CK}, flatFields P rec fs o n = some ks → n = o + ks.length ∧
    ∀ (base : Nat) (spare : Nat → Bool) (held : Bool) (m : Nat) (cs : List Value), cs.length = n → (∀ f ∈ fs, ∃ x, DataW.trod enc P w base spare held m f.type ((cs.drop f.offset).take (P.cellsOf f.type)) = some x) → ∃ avs, FitsK ks avs ∧ ∀ σ, VRs σ avs (cs.drop o)
  | [], o, n, ks, h => by
    unfold flatFields at h
    split at h
    · rename_i hc
      simp at h; subst h
      refine ⟨by simp [hc], fun base spare held m cs hl _ => ⟨[], .nil, fun σ => ?_⟩⟩
      rw [List.drop_of_length_le (by omega)]; exact .nil
    · simp at h
  | f :: fs, o, n, ks, h => by
    unfold flatFields at h
    split at h
    · rename_i l hl
      split at h
      · rename_i hc
        simp only [Option.map_eq_some_iff] at h
        obtain ⟨ms, hm, rfl⟩ := h
        have he := hrec hl
        obtain ⟨h1, h2⟩ := flat_fields (w := w) hrec fs (o + l.length) n hm
        refine ⟨by rw [h1]; simp; omega, fun base spare held m cs hcl hf => ?_⟩
        obtain ⟨x, hx⟩ := hf f (by simp)
        rw [hc.1, hc.2] at hx
        obtain ⟨a1, f1, v1⟩ := he.2 hx
        obtain ⟨a2, f2, v2⟩ := h2 base spare held m cs hcl fun g hg => hf g (by simp [hg])
        refine ⟨a1 ++ a2, f1.append f2, fun σ => ?_⟩
        have := (v1 σ).append (v2 σ)
        rwa [← List.drop_drop, List.take_append_drop] at this
      · simp at h
    · simp at h

theorem flat_open {w : World} : ∀ (d : Nat) {t : TypeId} {ks : List CK}, flatK P d t = some ks → FlatOk P w enc t ks
  | 0, _, _, h => by simp [flatK] at h
  | d + 1, t, ks, h => by
    unfold flatK at h
    split at h
    · rename_i hu
      split at h
      · rename_i hc
        simp at h; subst h
        exact ⟨hc, fun hx => by obtain ⟨b, rfl, _⟩ := DataW.trod_bool hu hx; exact ⟨_, .bool b _ _ .nil, fun σ => .cons _ _ _ _ (.bool b) .nil⟩⟩
      · simp at h
    · rename_i k hu
      split at h
      · rename_i hc
        simp at h; subst h
        exact ⟨hc, fun hx => by obtain ⟨n, rfl, _, hw⟩ := DataW.trod_int hu hx; exact ⟨_, .int k n hw _ _ .nil, fun σ => .cons _ _ _ _ (.int k n) .nil⟩⟩
      · simp at h
    · rename_i hu
      split at h
      · rename_i hc
        simp at h; subst h
        exact ⟨hc, fun hx => by obtain ⟨s, rfl, _⟩ := DataW.trod_string hu hx; exact ⟨_, .str _ _ _ .nil, fun σ => .cons _ _ _ _ (.str s) .nil⟩⟩
      · simp at h
    · rename_i n e hu
      split at h
      · rename_i l hl
        split at h
        · rename_i hc
          simp at h; subst h
          have he : FlatOk P w enc e l := flat_open d hl
          refine ⟨by rw [hc.2]; simp, fun hx => ?_⟩
          obtain ⟨xs, m, rfl, _, hlen, hxl, hel⟩ := DataW.trod_array hu hx
          have each : ∀ i, i < n → ∃ x, DataW.trod enc P w _ _ _ m e ((List.drop (i * l.length) _).take l.length) = some x := fun i hi => by
            have := hel i hi
            rw [hc.1, List.getElem?_eq_getElem (by omega)] at this
            exact ⟨_, this⟩
          exact flat_array he n _ (by rw [hlen, hc.2]) each
        · simp at h
      · simp at h
    · rename_i fs hu
      obtain ⟨hc, key⟩ := flat_fields (fun h => flat_open d h) fs.toList 0 (P.cellsOf t) h
      refine ⟨by omega, fun hx => ?_⟩
      obtain ⟨xs, m, rfl, _, hlen, hxl, hel⟩ := DataW.trod_struct hu hx
      obtain ⟨avs, f1, v1⟩ := key _ _ _ m _ (by rw [hlen]) fun f hf => by
        obtain ⟨i, hi, rfl⟩ := List.getElem_of_mem hf
        have hi' : i < fs.size := by simpa using hi
        have := hel i _ (Array.getElem?_eq_getElem hi')
        rw [List.getElem?_eq_getElem (by omega)] at this
        exact ⟨_, by simpa using this⟩
      exact ⟨avs, f1, by simpa using v1⟩
    · simp at h
/-! ### Arguments by type -/

/-- A value of one cell, or a row of cells. -/
def ofCells (t : Option TypeDesc) (l : List AV) : AV := match t with
  | some (.struct _) => .agg l
  | some (.array _ _) => .agg l
  | _ => l.headD (.tup [])

/-- One more argument, without addresses. -/
theorem Args.plain {W : World} {σ : Sig} {h : AHeap} {avs : List AV} {vs : List Value} (A : Args W σ h avs vs) {t : TypeId} {ks : List CK} {v : Value} {d : DataW H} {ps : List MemPlace} (hk : flatK P 10 t = some ks)
    (hval : Value.okWide P W .any 0 t v) (hd : DataW.Trod enc P W 0 (fun _ => true) true t v d ps) : ∃ l, FitsK ks l ∧ Args W σ h (avs ++ [ofCells (P.underlying t) l]) (vs ++ [v]) := by
  obtain ⟨fuel, hd⟩ := hd
  obtain ⟨l, hl, hv⟩ := (flat_open (w := W) 10 hk).2 hd
  refine ⟨l, hl, A.flat fun σ => ?_⟩
  unfold Value.okWide at hval
  unfold ofCells
  split at hval
  · rename_i fs hu
    obtain ⟨cs, rfl, _⟩ := hval
    rw [hu]
    have := hv σ
    simp only [Value.cells] at this
    simpa using VR.agg _ _ this
  · rename_i n e hu
    obtain ⟨cs, rfl, _⟩ := hval
    rw [hu]
    have := hv σ
    simp only [Value.cells] at this
    simpa using VR.agg _ _ this
  · rename_i h1 h2
    have one : ∀ (a : AV) (u : Value), l = [a] → v.cells.toList = [u] → v = u → VR σ (l.headD (.tup [])) v := by
      intro a u e1 e2 e3
      have := hv σ
      rw [e1, e2] at this
      cases this with
      | cons _ _ _ _ h _ => rw [e1, e3]; exact h
    have hsh := hk
    unfold flatK at hsh
    split at hsh
    · rename_i hu
      obtain ⟨b, e1, _⟩ := DataW.trod_bool hu hd
      have : v = .bool b := by
        unfold Cell.okWide at hval
        cases v <;> simp [Value.cells] at e1 <;> first | (rw [e1]) | (exfalso; simp_all [Cell.ok])
      rw [hu]
      cases hl <;> first
        | (have := hv σ; rw [e1] at this; cases this with
            | cons _ _ _ _ h t => rw [this]; exact h)
        | (have := hv σ; rw [e1] at this; cases this)
    · rename_i k hu
      obtain ⟨b, e1, _, _⟩ := DataW.trod_int hu hd
      have : v = .int k b := by
        unfold Cell.okWide at hval
        cases v <;> simp [Value.cells] at e1 <;> first | (obtain ⟨rfl, rfl⟩ := e1; rfl) | (exfalso; simp_all [Cell.ok])
      rw [hu]
      cases hl <;> first
        | (have := hv σ; rw [e1] at this; cases this with
            | cons _ _ _ _ h t => rw [this]; exact h)
        | (have := hv σ; rw [e1] at this; cases this)
    · rename_i hu
      obtain ⟨b, e1, _⟩ := DataW.trod_string hu hd
      have : v = .string b := by
        unfold Cell.okWide at hval
        cases v <;> simp [Value.cells] at e1 <;> first | (rw [e1]) | (exfalso; simp_all [Cell.ok])
      rw [hu]
      cases hl <;> first
        | (have := hv σ; rw [e1] at this; cases this with
            | cons _ _ _ _ h t => rw [this]; exact h)
        | (have := hv σ; rw [e1] at this; cases this)
    · rename_i n e hu; exact absurd hu (h2 n e)
    · rename_i fs hu; exact absurd hu (h1 fs)
    · simp at hsh

theorem cells?_get {w : World} {base : Nat} {a : Addr} {n : Nat} {cs : List Value} (h : w.cells? base a n = some cs) : cs.length = n ∧ ∀ j, j < n → ∃ v, cs[j]? = some v ∧ w.cell? (a.add j) = some v := by
  unfold World.cells? at h
  split at h
  · refine ⟨by simpa using mapM_some_length h, fun j hj => ?_⟩
    have := mapM_some_get h j j (by simp [hj])
    have hl : cs.length = n := by simpa using mapM_some_length h
    rw [List.getElem?_eq_getElem (by omega)] at this ⊢
    exact ⟨_, rfl, this⟩
  · simp at h

theorem addr_add2 (a : Addr) (i j : Nat) : (a.add i).add j = a.add (i + j) := by
  unfold Addr.add
  by_cases hi : i = 0
  · subst hi; simp
  · by_cases hj : j = 0
    · subst hj; simp [hi]
    · have : i + j ≠ 0 := by omega
      simp [hi, hj, this, Nat.add_assoc]

theorem rows_at {w : World} {l : List CK} {e : TypeId} (he : FlatOk P w enc e l) (hc : P.cellsOf e = l.length) {base : Nat} {spare : Nat → Bool} {held : Bool} {m : Nat} {a : Addr} : ∀ (n : Nat),
    (∀ i, i < n → ∃ x, (w.cells? base (a.add (i * l.length)) l.length).bind (DataW.trod enc P w base spare held m e) = some x) →
    ∃ (rows : List (List AV)) (cs : List Value), rows.length = n ∧ (∀ r ∈ rows, FitsK l r) ∧ (∀ σ, VRs σ rows.flatten cs) ∧ cs.length = n * l.length ∧ ∀ (j : Nat) u, cs[j]? = some u → w.cell? (a.add j) = some u
  | 0, _ => ⟨[], [], rfl, by simp, fun _ => .nil, by simp, by simp⟩
  | n + 1, h => by
    obtain ⟨rows, cs, h1, h2, h3, h4, h5⟩ := rows_at he hc n fun i hi => h i (by omega)
    obtain ⟨x, hx⟩ := h n (by omega)
    simp only [Option.bind_eq_some_iff] at hx
    obtain ⟨us, hu, hx⟩ := hx
    obtain ⟨r, hr, hv⟩ := he.2 hx
    obtain ⟨g1, g2⟩ := cells?_get hu
    refine ⟨rows ++ [r], cs ++ us, by simp [h1], ?_, ?_, by rw [List.length_append, h4, g1, Nat.succ_mul], ?_⟩
    · intro q hq
      rcases List.mem_append.1 hq with hq | hq
      · exact h2 q hq
      · simp at hq; subst hq; exact hr
    · intro σ
      simpa using (h3 σ).append (hv σ)
    · intro j u hj
      rcases Nat.lt_or_ge j cs.length with hlt | hge
      · rw [List.getElem?_append_left hlt] at hj; exact h5 j u hj
      · rw [List.getElem?_append_right hge] at hj
        have hlt : j - cs.length < l.length := by
          have := (List.getElem?_eq_some_iff.1 hj).1
          omega
        obtain ⟨v, hv1, hv2⟩ := g2 _ hlt
        rw [hj] at hv1; cases hv1
        rw [← hv2, addr_add2]
        congr 2
        omega

/-- One more argument: a slice of such. -/
theorem Args.row {W : World} {σ : Sig} {h : AHeap} {avs : List AV} {vs : List Value} (A : Args W σ h avs vs) {t e : TypeId} {ks : List CK} {v : Value} {d : DataW H} {ps : List MemPlace} (ht : P.underlying t = some (.slice e)) (hk : flatK P 10 e = some ks) (hz : 0 < ks.length)
    (hval : Value.okWide P W .any 0 t v) (hd : DataW.Trod enc P W 0 (fun _ => true) true t v d ps) :
    ∃ σ', ∃ rows : List (List AV), (∀ r ∈ rows, FitsK ks r) ∧ rows.length ≤ maxLen ∧ Args W σ' (h ++ [.cells rows.flatten ks.length .far none]) (avs ++ [.sl (some (h.length, 0)) rows.length 0 false]) (vs ++ [v]) := by
  obtain ⟨a0, l0, c0, rfl⟩ := okWide_slice ht hval
  obtain ⟨fuel, hd⟩ := hd
  have he := flat_open (H := H) (enc := enc) (P := P) (w := W) 10 hk
  simp only [Value.cells] at hd
  rcases DataW.trod_slice ht hd with ⟨h0, _⟩ | ⟨a, len, cap, elems, rest, n, _, h0, _, hb, hl, hm, hlen, hel, hsp0, _⟩
  · simp at h0
    obtain ⟨rfl, rfl, rfl⟩ := h0
    have R := A.rel.far1 (p := ⟨0, 0, 0⟩) (vs := []) (e := ks.length) (fun σ => .inl ⟨rfl, fun h => by cases h⟩) (fun h => absurd rfl h)
    exact ⟨_, [], by simp, Nat.zero_le _, R, (A.vrs.grow _).snoc (.sln _ _ _ (by rw [← A.rel.len]; exact get_snoc _ _) rfl)⟩
  · simp at h0
    obtain ⟨rfl, rfl, rfl⟩ := h0
    obtain ⟨rows, cs, h1, h2, h3, h4, h5⟩ := rows_at he he.1 (a := a) l0 fun i hi => by
      have := hel i hi
      rw [he.1, List.getElem?_eq_getElem (by omega)] at this
      exact ⟨_, this⟩
    have hfl : rows.flatten.length = l0 * ks.length := by rw [(h3 σ).length, h4]
    by_cases h00 : l0 = 0
    · have hrows : rows = [] := List.eq_nil_of_length_eq_zero (by omega)
      subst hrows
      have R := A.rel.far1 (p := ⟨a.block, a.off, c0⟩) (vs := []) (e := ks.length) (fun σ => .inl ⟨rfl, fun h => by cases h⟩) (fun h => absurd rfl h)
      subst h00
      refine ⟨_, [], by simp, Nat.zero_le _, R, (A.vrs.grow _).snoc (.sl _ _ _ _ _ ⟨a.block, a.off, c0⟩ _ c0 (by rw [← A.rel.len]; exact get_snoc _ _) (Nat.zero_le _) (by simp [capOf]) ?_)⟩
      by_cases hc0 : c0 = 0
      · exact .inr hc0
      · left
        obtain ⟨hr1, hr2⟩ := hsp0 rfl
        have hr := hr2 0 (by omega)
        rw [List.getElem?_eq_getElem (by omega)] at hr
        simp only [Option.bind_eq_some_iff] at hr
        obtain ⟨us, hu, _⟩ := hr
        rw [he.1] at hu
        obtain ⟨g1, g2⟩ := cells?_get hu
        obtain ⟨u0, hu0, hu1⟩ := g2 0 hz
        have hsp := (cells_row (W := W) (a := a) (vs := [u0]) (by simp) fun i v hi => by
          have hi0 : i = 0 := by
            have := (List.getElem?_eq_some_iff.1 hi).1
            simpa using this
          subst hi0
          simp at hi; subst hi
          rw [addr_add2] at hu1
          simpa using hu1).1
        obtain ⟨b0, o0, s0⟩ := a
        simp at hsp; subst hsp; rfl
    · have hne : rows.flatten ≠ [] := by
        intro h
        rw [h] at hfl
        have : 0 < l0 * ks.length := Nat.mul_pos (by omega) hz
        simp at hfl; omega
      have hcs : cs ≠ [] := by
        rintro rfl
        have := (h3 σ).length
        exact hne (List.eq_nil_of_length_eq_zero (by simpa using this))
      obtain ⟨hsp, c, t, fr, hb2, hw⟩ := cells_row hcs h5
      have R := A.rel.far1 (p := ⟨a.block, a.off, c0 - l0⟩) (vs := rows.flatten) (e := ks.length) (fun σ => .inr ⟨hne, c, t, fr, hb2, by rw [(h3 σ).length, ← hw]; exact h3 σ, fun h => by cases h⟩) (fun _ => (Array.getElem?_eq_some_iff.1 hb2).1)
      refine ⟨_, rows, h2, by omega, R, (A.vrs.grow _).snoc ?_⟩
      rw [h1]
      refine .sl _ _ _ _ _ ⟨a.block, a.off, c0 - l0⟩ _ c0 (by rw [← A.rel.len]; exact get_snoc _ _) hl (by simp [capOf]; omega) (.inl ?_)
      obtain ⟨b0, o0, s0⟩ := a
      simp at hsp; subst hsp; rfl

end Go.Abs
