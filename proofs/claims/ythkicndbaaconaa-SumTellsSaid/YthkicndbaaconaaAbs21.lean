/- A law's call: its arguments, told; its end. -/
import Derived.Test.YthkicndbaaconaaAbs20
import Derived.ChangeSame
import Derived.ChangeSlices
import Derived.Carry
import Derived.RowKit
set_option autoImplicit false
set_option linter.unusedVariables false
set_option linter.unusedSimpArgs false
namespace Go.Abs
open Go.ChangeShapes Go.RowKit
variable {H : Type} {enc : TypeId × Value → H} {P : Program}

theorem trodAll_below {W W' : World} (hl : laidOutB P = true) (hb : Below W.heap.size W W') : ∀ {ts : List TypeId} {vs : List Value} {ds : List (DataW H)} {ps : List MemPlace},
    (∀ t ∈ ts, P.readableRec t = true ∧ t < P.types.size) → DataW.TrodAll enc P W 0 (fun _ => true) true ts vs ds ps → (∀ x ∈ ps, x.block < W.heap.size) →
    DataW.TrodAll enc P W' 0 (fun b => decide (b < W.heap.size)) true ts vs ds ps
  | [], [], [], _, _, h, _ => h
  | _ :: _, _ :: _, _ :: _, _, hT, ⟨p, q, h1, h2, e⟩, hs =>
    ⟨p, q, Below.trod hl (hT _ (by simp)).1 (hT _ (by simp)).2 h1 hb (fun x hx => hs x (by rw [e]; exact List.mem_append_left _ hx)),
      trodAll_below hl hb (fun t ht => hT t (List.mem_cons_of_mem _ ht)) h2 (fun x hx => hs x (by rw [e]; exact List.mem_append_right _ hx)), e⟩

/-- The end of a law that hands back true and leaves what came in. -/
theorem law_post {f : Func} {s : ChangeSpec} {W W' : World} {args : Array Value} {ds gs : List (DataW H)} {before : List MemPlace} {tb : TypeId}
    (hW : DataW.Whole enc P f.params.toList s.vars false W args.toList ds gs before) (hv : s.vars = []) (hs : ∀ gs' : List (DataW H), gs' = [] → s.fn H (ds ++ gs') = { results := [.lit (.bool true)], args := ds })
    (hrt : f.resultTypes = #[tb]) (htb : P.underlying tb = some .bool) (hl : laidOutB P = true) (hp : ∀ t ∈ f.params.toList, P.readableRec t = true ∧ t < P.types.size) (hb : Below W.heap.size W W') :
    s.post enc P f false true false false W args (.bool true) W' := by
  have hlt := hW.lt
  have hW' := hW
  obtain ⟨p, q, hA, hV, rfl, hfz, _⟩ := hW
  rw [hv] at hV
  obtain ⟨rfl, rfl⟩ := trodVars_none hV
  have hs' := hs [] rfl
  refine ⟨ds, [], p ++ [], [], p, [], hW', ?_, ?_, ?_, hb.frame _, fun h => by cases h⟩
  · rw [hs', hrt]
    exact trodAll_mk1 (shut_bool htb true)
  · rw [hs']
    exact trodAll_below hl hb hp hA fun x hx => hlt x (by simp [hx])
  · rw [hs', hv]; exact hV

/-- A call that the interpreter says hands back true. -/
theorem calls_true {f : FuncId} {E : Ent} (hE : SoundE P f E) {W : World} {σ : Sig} {h h' : AHeap} {avs : List AV} {args : Array Value} (hx : E.get avs h = some (.bool true, h')) (R : Rel W σ h W) (hv : VRs σ avs args.toList) :
    Calls P f args W fun e W' => e = .returned (.bool true) ∧ Below W.heap.size W W' := by
  obtain ⟨_, hc⟩ := hE hx R hv
  refine (callsIn_wide (n := 0)).1 (CallsIn.mono (hc 0) fun e w' hr => ?_)
  obtain ⟨v', σ', rfl, _, R', hv'⟩ := hr
  exact ⟨by rw [hv'.bool_inv], R'.below⟩

/-! ### What came in -/

theorem Rel.nothing (W : World) : Rel W [] [] W :=
  ⟨rfl, fun h _ => by simp at h, fun h _ => by simp at h, fun h _ => by simp at h, fun _ h => by simp at h, RowKit.Below.refl _ _⟩

/-- One more row of the caller's. -/
theorem Rel.far1 {W : World} {σ : Sig} {h : AHeap} {w : World} (R : Rel W σ h w) {vs : List AV} {e : Nat} {p : Plc} (ho : ObjR σ p w (.cells vs e .far none)) (hlt : vs ≠ [] → p.blk < W.heap.size) :
    Rel W (σ ++ [p]) (h ++ [.cells vs e .far none]) w := by
  have key : ∀ {j : Nat} {b : ABlk} {q : Plc}, (h ++ [ABlk.cells vs e .far none])[j]? = some b → (σ ++ [p])[j]? = some q → (h[j]? = some b ∧ σ[j]? = some q) ∨ (j = h.length ∧ b = .cells vs e .far none ∧ q = p) := by
    intro j b q h1 h2
    rcases Nat.lt_or_ge j h.length with hi | hi
    · rw [List.getElem?_append_left hi] at h1
      rw [List.getElem?_append_left (by rw [R.len]; exact hi)] at h2
      exact .inl ⟨h1, h2⟩
    · have hi' := (List.getElem?_eq_some_iff.1 h1).1
      simp at hi'
      have e' : j = h.length := by omega
      subst e'
      rw [List.getElem?_append_right (by simp)] at h1
      rw [List.getElem?_append_right (by rw [R.len]; simp)] at h2
      simp [R.len] at h1 h2
      exact .inr ⟨rfl, h1.symm, h2.symm⟩
  refine ⟨by simp [R.len], fun h1 h2 => ?_, fun h1 h2 hvs => ?_, fun h1 h2 hm => ?_, fun hij h1 h2 h3 h4 m1 m2 => ?_, R.below⟩
  · rcases key h1 h2 with ⟨h1, h2⟩ | ⟨_, rfl, rfl⟩
    · exact (R.obj h1 h2).grow _
    · exact ho.grow _
  · rcases key h1 h2 with ⟨h1, h2⟩ | ⟨_, e1, rfl⟩
    · exact R.far h1 h2 hvs
    · cases e1; exact hlt hvs
  · rcases key h1 h2 with ⟨h1, h2⟩ | ⟨_, rfl, rfl⟩
    · exact R.own h1 h2 hm
    · simp [ABlk.mine] at hm
  · rcases key h1 h3 with ⟨k1, k3⟩ | ⟨_, rfl, _⟩
    · rcases key h2 h4 with ⟨k2, k4⟩ | ⟨_, rfl, _⟩
      · exact R.sep hij k1 k2 k3 k4 m1 m2
      · simp [ABlk.mine] at m2
    · simp [ABlk.mine] at m1

/-- A slice as it came in: nil; or a row of the caller's of so many cells, the spare ones too. -/
inductive Came (W : World) (size : Nat) (zs : List AV) : Value → AV → Nat → Prop
  | nil (k : Nat) (h : zs = []) : Came W size zs (.slice none 0 0) (.sl none 0 0 true) k
  | row (k : Nat) (a : Addr) (len cap : Nat) (hl : len ≤ cap) (hz : zs.length = cap * size) (hc : zs ≠ [] → a.spot = none) : Came W size zs (.slice (some a) len cap) (.sl (some (k, 0)) len cap true) k

/-- The arguments so far. -/
structure Args (W : World) (σ : Sig) (h : AHeap) (avs : List AV) (vs : List Value) : Prop where
  rel : Rel W σ h W
  vrs : VRs σ avs vs

theorem Args.nothing (W : World) : Args W [] [] [] [] := ⟨Rel.nothing W, .nil⟩

theorem VRs.snoc {σ : Sig} {l : List AV} {m : List Value} {a : AV} {v : Value} (h : VRs σ l m) (hv : VR σ a v) : VRs σ (l ++ [a]) (m ++ [v]) := h.append (.cons _ _ _ _ hv .nil)

/-- One more argument without memory. -/
theorem Args.flat {W : World} {σ : Sig} {h : AHeap} {avs : List AV} {vs : List Value} (A : Args W σ h avs vs) {a : AV} {v : Value} (hv : ∀ σ, VR σ a v) : Args W σ h (avs ++ [a]) (vs ++ [v]) :=
  ⟨A.rel, A.vrs.snoc (hv σ)⟩

/-- The cells of a row, as the world has them. -/
theorem cells_row {W : World} {a : Addr} {vs : List Value} (hv : vs ≠ []) (hc : ∀ (i : Nat) v, vs[i]? = some v → W.cell? (a.add i) = some v) :
    a.spot = none ∧ ∃ c t fr, W.heap[a.block]? = some (.cells c t fr) ∧ vs = (c.toList.drop a.off).take vs.length := by
  obtain ⟨b, o, sp⟩ := a
  have h0 : ∃ v, vs[0]? = some v := by
    cases vs with
    | nil => exact absurd rfl hv
    | cons v l => exact ⟨v, rfl⟩
  obtain ⟨v0, h0⟩ := h0
  have c0 := hc 0 v0 h0
  have e0 : (⟨b, o, sp⟩ : Addr).add 0 = ⟨b, o, sp⟩ := by simp [Addr.add]
  rw [e0] at c0
  unfold World.cell? at c0
  split at c0
  · rename_i c t fr hb
    simp only at hb
    cases sp with
    | some s => simp at c0
    | none =>
      refine ⟨rfl, c, t, fr, hb, ?_⟩
      apply List.ext_getElem?
      intro i
      rw [List.getElem?_take]
      split
      · rename_i hi
        rw [List.getElem?_drop]
        have h1 := hc i _ (List.getElem?_eq_getElem hi)
        rw [addr_add] at h1
        simp [World.cell?, hb] at h1
        rw [List.getElem?_eq_getElem hi]
        simpa using h1.symm
      · rename_i hi
        simp; omega
  · simp at c0

/-- One more argument: a slice of so many cells each, which are told. -/
theorem Args.slice {W : World} {σ : Sig} {h : AHeap} {avs : List AV} {vs : List Value} (A : Args W σ h avs vs) {size : Nat} {zs : List AV} {ws : List Value} {v : Value} {b : AV}
    (hsz : 0 < size) (hz : ∀ σ, VRs σ zs ws) (hc : Came W size zs v b h.length) (hcell : ∀ a len cap, v = .slice (some a) len cap → ∀ (i : Nat) u, ws[i]? = some u → W.cell? (a.add i) = some u) :
    ∃ σ', Args W σ' (h ++ [.cells zs size .far none]) (avs ++ [b]) (vs ++ [v]) := by
  cases hc with
  | nil _ h0 =>
    have R := A.rel.far1 (p := ⟨0, 0, 0⟩) (vs := zs) (e := size) (.inl ⟨h0, rfl⟩) (fun h => absurd h0 h)
    exact ⟨_, R, (A.vrs.grow _).snoc (.sl0 _ _ _)⟩
  | row _ a len cap hl hzl hsp =>
    by_cases h0 : zs = []
    · have R := A.rel.far1 (p := ⟨0, 0, 0⟩) (vs := zs) (e := size) (.inl ⟨h0, rfl⟩) (fun h => absurd h0 h)
      refine ⟨_, R, (A.vrs.grow _).snoc (.sl _ _ _ _ _ ⟨0, 0, 0⟩ _ cap (by rw [← A.rel.len]; simp) hl (by simp) (.inr ?_))⟩
      subst h0
      rcases Nat.eq_zero_or_pos cap with h1 | h1
      · exact h1
      · have := Nat.mul_pos h1 hsz
        simp at hzl; omega
    · have hws : ws ≠ [] := by
        rintro rfl
        have := (hz σ).length
        simp at this; exact h0 (by simpa using this)
      obtain ⟨hsp, c, t, fr, hb, hw⟩ := cells_row hws (hcell a len cap rfl)
      have hlen := (hz σ).length
      have R := A.rel.far1 (p := ⟨a.block, a.off, 0⟩) (vs := zs) (e := size) (.inr ⟨c, t, fr, hb, by rw [hlen, ← hw]; exact hz σ, by simp⟩) (fun _ => (Array.getElem?_eq_some_iff.1 hb).1)
      refine ⟨_, R, (A.vrs.grow _).snoc (.sl _ _ _ _ _ ⟨a.block, a.off, 0⟩ _ cap (by rw [← A.rel.len]; simp) hl (by simp) (.inl ?_))⟩
      obtain ⟨b0, o0, s0⟩ := a
      simp at hsp; subst hsp; rfl

/-! ### By type -/

def intsA (k : IntKind) (zs : List Int) : List AV := zs.map fun n => .int k n

/-- A slice of integers. -/
theorem Args.ints {W : World} {σ : Sig} {h : AHeap} {avs : List AV} {vs : List Value} (A : Args W σ h avs vs) {t e : TypeId} {k : IntKind} {v : Value} {d : DataW H} {ps : List MemPlace} (ht : P.underlying t = some (.slice e)) (he : P.underlying e = some (.int k)) (hc : P.cellsOf e = 1)
    (hd : DataW.Trod enc P W 0 (fun _ => true) true t v d ps) (h1 : v.cells.toList = [v]) : ∃ σ' zs b, Args W σ' (h ++ [.cells (intsA k zs) 1 .far none]) (avs ++ [b]) (vs ++ [v]) ∧ (∀ n ∈ zs, (Lit.int k n).wf = true) ∧
      ((b = .sl none 0 0 true ∧ zs = [] ∧ d = .nil) ∨ ∃ len cap, b = .sl (some (h.length, 0)) len cap true ∧ len ≤ cap ∧ cap = zs.length ∧ cap ≤ maxLen ∧ d = .slice (lits k (zs.take len)) (lits k (zs.drop len))) := by
  obtain ⟨n, hn⟩ := hd
  rw [h1] at hn
  rcases open_ints ht he hc hn with ⟨hcs, hx⟩ | ⟨a, len, cap, zs, hcs, _, hl, hm, hz, hx, hcell, hwf⟩
  · simp at hcs hx
    subst hcs
    obtain ⟨rfl, rfl⟩ := hx
    obtain ⟨σ', A'⟩ := A.slice (size := 1) (zs := intsA k []) (ws := []) (v := .slice none 0 0) (b := .sl none 0 0 true) (by omega) (fun _ => .nil) (.nil _ rfl) (fun _ _ _ h => by cases h)
    exact ⟨σ', [], _, A', by simp, .inl ⟨rfl, rfl, rfl⟩⟩
  · simp at hcs hx
    subst hcs
    obtain ⟨rfl, rfl⟩ := hx
    have hz' : zs.length = cap := by simpa using hz
    have hcell' : ∀ (i : Nat) u, (zs.map fun n => Value.int k n)[i]? = some u → W.cell? (a.add i) = some u := by
      intro i u hu
      simp only [List.getElem?_map, Option.map_eq_some_iff] at hu
      obtain ⟨m, hm', rfl⟩ := hu
      have hi := (List.getElem?_eq_some_iff.1 hm').1
      rw [hcell i hi, List.getD_eq_getElem?_getD, hm']; rfl
    obtain ⟨σ', A'⟩ := A.slice (size := 1) (zs := intsA k zs) (ws := zs.map fun n => Value.int k n) (v := .slice (some a) len cap) (b := .sl (some (h.length, 0)) len cap true) (by omega)
      (fun σ => VRs.map_of _ _ zs fun n _ => .int k n)
      (.row _ a len cap hl (by simp [intsA, hz']) (fun hne => (cells_row (by intro h0; apply hne; simpa [intsA] using h0) hcell').1))
      (fun a' len' cap' e i u hu => by cases e; exact hcell' i u hu)
    exact ⟨σ', zs, _, A', hwf, .inr ⟨len, cap, rfl, hl, hz'.symm, hm, rfl⟩⟩

end Go.Abs
