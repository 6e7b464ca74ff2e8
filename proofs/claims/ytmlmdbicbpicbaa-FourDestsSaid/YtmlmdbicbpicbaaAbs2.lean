/- The abstract heap held against a world: values, blocks, what a step may turn; the laws by which the relation is kept. -/
import Derived.Test.YtmlmdbicbpicbaaAbs1
set_option autoImplicit false
set_option linter.unusedVariables false
set_option linter.unusedSimpArgs false
namespace Go.Abs

/-- Where an abstract block lies: a block, a place in it, and how many elements more its slices may hold than is told. -/
structure Plc where
  blk : Nat
  off : Nat
  spare : Nat
  deriving Inhabited

abbrev Sig := List Plc

mutual
inductive VR (σ : Sig) : AV → Value → Prop
  | any (v : Value) : VR σ .any v
  | bool (b : Bool) : VR σ (.bool b) (.bool b)
  | int (k : IntKind) (n : Int) : VR σ (.int k n) (.int k n)
  | str (s : ByteArray) : VR σ (.str s.data.toList) (.string s)
  | ptr0 : VR σ (.ptr none) (.pointer none)
  | ptr (i o : Nat) (p : Plc) (h : σ[i]? = some p) : VR σ (.ptr (some (i, o))) (.pointer (some ⟨p.blk, p.off + o, none⟩))
  | sl0 (e : Bool) : VR σ (.sl none 0 0 e) (.slice none 0 0)
  | sl (i o l c : Nat) (e : Bool) (p : Plc) (a : Addr) (c' : Nat) (h : σ[i]? = some p) (hl : l ≤ c') (hc : c' = capOf l c e + (if e then 0 else p.spare))
      (ha : a = ⟨p.blk, p.off + o, none⟩ ∨ c' = 0) : VR σ (.sl (some (i, o)) l c e) (.slice (some a) l c')
  | sln (i o : Nat) (p : Plc) (h : σ[i]? = some p) (hc : p.spare = 0) : VR σ (.sl (some (i, o)) 0 0 false) (.slice none 0 0)
  | map0 : VR σ (.map none) (.map none)
  | map (i : Nat) (p : Plc) (h : σ[i]? = some p) : VR σ (.map (some i)) (.map (some p.blk))
  | fn (f : FuncId) (cap : List AV) (cap' : List Value) (h : VRs σ cap cap') : VR σ (.fn (.func f) cap) (.func (.func f) #[] cap'.toArray)
  | yld (i : Nat) (p : Plc) (h : σ[i]? = some p) : VR σ (.fn (.yield i) []) (.func (.yield p.blk) #[] #[])
  | nilFn : VR σ .nilFn .nilFunc
  | agg (l : List AV) (cs : List Value) (h : VRs σ l cs) : VR σ (.agg l) (.agg cs.toArray)
  | tup (l : List AV) (cs : List Value) (h : VRs σ l cs) : VR σ (.tup l) (.tuple cs.toArray)
inductive VRs (σ : Sig) : List AV → List Value → Prop
  | nil : VRs σ [] []
  | cons (a : AV) (v : Value) (l : List AV) (m : List Value) (h : VR σ a v) (t : VRs σ l m) : VRs σ (a :: l) (v :: m)
end

theorem capOf_true (l c : Nat) : capOf l c true = c := rfl
theorem capOf_false (l c : Nat) : capOf l c false = l + c := rfl

theorem capOf_le {l c c' s : Nat} {e : Bool} (hl : l ≤ c') (hc : c' = capOf l c e + (if e then 0 else s)) : l ≤ capOf l c e ∧ capOf l c e ≤ c' := by
  cases e <;> simp [capOf] at hc ⊢ <;> omega

theorem capOf_room {len r a b : Nat} {full ex : Bool} (h1 : a ≤ b) (h2 : b ≤ capOf len r ex) (hf : full = true → b = len) : capOf (b - a) (roomOf len r a full b ex) ex = capOf len r ex - a := by
  cases ex with
  | true => rfl
  | false =>
    simp only [capOf] at h2 ⊢
    cases full with
    | true => have := hf rfl; simp only [roomOf]; omega
    | false => simp only [roomOf]; omega

theorem VRs.length {σ : Sig} : ∀ {l : List AV} {m : List Value}, VRs σ l m → l.length = m.length
  | _, _, .nil => rfl
  | _, _, .cons _ _ _ _ _ t => by simp [t.length]

theorem VRs.get {σ : Sig} : ∀ {l : List AV} {m : List Value}, VRs σ l m → ∀ {i : Nat} {a : AV}, l[i]? = some a → ∃ v, m[i]? = some v ∧ VR σ a v
  | _, _, .nil, _, _, h => by simp at h
  | _, _, .cons a v _ _ h t, 0, _, e => by simp at e; subst e; exact ⟨v, rfl, h⟩
  | _, _, .cons _ _ _ _ _ t, i + 1, _, e => by simp at e; obtain ⟨v, h1, h2⟩ := t.get e; exact ⟨v, by simpa using h1, h2⟩

theorem VRs.of_get {σ : Sig} : ∀ {l : List AV} {m : List Value}, l.length = m.length → (∀ (i : Nat) a v, l[i]? = some a → m[i]? = some v → VR σ a v) → VRs σ l m
  | [], [], _, _ => .nil
  | a :: l, v :: m, hl, h => .cons _ _ _ _ (h 0 a v rfl rfl) (VRs.of_get (by simpa using hl) fun i x y hx hy => h (i + 1) x y (by simpa using hx) (by simpa using hy))
  | [], _ :: _, hl, _ => by simp at hl
  | _ :: _, [], hl, _ => by simp at hl

theorem VRs.set {σ : Sig} {l : List AV} {m : List Value} (h : VRs σ l m) (i : Nat) {a : AV} {v : Value} (hv : VR σ a v) : VRs σ (l.set i a) (m.set i v) := by
  refine VRs.of_get (by simp [h.length]) fun j x y hx hy => ?_
  rw [List.getElem?_set] at hx hy
  by_cases e : i = j
  · subst e
    simp only [if_true] at hx hy
    split at hx
    · split at hy
      · simp at hx hy; subst hx; subst hy; exact hv
      · simp at hy
    · simp at hx
  · rw [if_neg e] at hx hy
    obtain ⟨v', h1, h2⟩ := h.get hx
    rw [h1] at hy; simp at hy; subst hy; exact h2

theorem VRs.append {σ : Sig} : ∀ {l : List AV} {m : List Value} {l' : List AV} {m' : List Value}, VRs σ l m → VRs σ l' m' → VRs σ (l ++ l') (m ++ m')
  | _, _, _, _, .nil, h => h
  | _, _, _, _, .cons _ _ _ _ h t, h' => .cons _ _ _ _ h (t.append h')

theorem VRs.drop {σ : Sig} : ∀ (n : Nat) {l : List AV} {m : List Value}, VRs σ l m → VRs σ (l.drop n) (m.drop n)
  | 0, _, _, h => h
  | _ + 1, _, _, .nil => by simp; exact .nil
  | n + 1, _, _, .cons _ _ _ _ _ t => by simpa using t.drop n

theorem VRs.take {σ : Sig} : ∀ (n : Nat) {l : List AV} {m : List Value}, VRs σ l m → VRs σ (l.take n) (m.take n)
  | 0, _, _, _ => by simp; exact .nil
  | _ + 1, _, _, .nil => by simp; exact .nil
  | n + 1, _, _, .cons _ _ _ _ h t => by simpa using .cons _ _ _ _ h (t.take n)

theorem VRs.map_of {σ : Sig} {α : Type} (f : α → AV) (g : α → Value) : ∀ (l : List α), (∀ x ∈ l, VR σ (f x) (g x)) → VRs σ (l.map f) (l.map g)
  | [], _ => .nil
  | a :: l, h => .cons _ _ _ _ (h a (by simp)) (VRs.map_of f g l fun x hx => h x (by simp [hx]))

theorem VRs.replicate {σ : Sig} {a : AV} {v : Value} (h : VR σ a v) : ∀ n, VRs σ (List.replicate n a) (List.replicate n v)
  | 0 => .nil
  | n + 1 => .cons _ _ _ _ h (VRs.replicate h n)

theorem VRs.flatten {σ : Sig} {l : List AV} {m : List Value} (h : VRs σ l m) : ∀ n, VRs σ (List.replicate n l).flatten (List.replicate n m).flatten
  | 0 => .nil
  | n + 1 => by simpa [List.replicate_succ] using h.append (h.flatten n)

mutual
theorem VR.grow {σ : Sig} (τ : Sig) : ∀ {a : AV} {v : Value}, VR σ a v → VR (σ ++ τ) a v
  | _, _, .any v => .any v
  | _, _, .bool b => .bool b
  | _, _, .int k n => .int k n
  | _, _, .str s => .str s
  | _, _, .ptr0 => .ptr0
  | _, _, .ptr i o p h => .ptr i o p (by rw [List.getElem?_append_left (List.getElem?_eq_some_iff.1 h).1]; exact h)
  | _, _, .sl0 e => .sl0 e
  | _, _, .sl i o l c e p a c' h hl hc ha => .sl i o l c e p a c' (by rw [List.getElem?_append_left (List.getElem?_eq_some_iff.1 h).1]; exact h) hl hc ha
  | _, _, .sln i o p h hc => .sln i o p (by rw [List.getElem?_append_left (List.getElem?_eq_some_iff.1 h).1]; exact h) hc
  | _, _, .map0 => .map0
  | _, _, .map i p h => .map i p (by rw [List.getElem?_append_left (List.getElem?_eq_some_iff.1 h).1]; exact h)
  | _, _, .fn f cap cap' h => .fn f cap cap' (VRs.grow τ h)
  | _, _, .yld i p h => .yld i p (by rw [List.getElem?_append_left (List.getElem?_eq_some_iff.1 h).1]; exact h)
  | _, _, .nilFn => .nilFn
  | _, _, .agg l cs h => .agg l cs (VRs.grow τ h)
  | _, _, .tup l cs h => .tup l cs (VRs.grow τ h)
theorem VRs.grow {σ : Sig} (τ : Sig) : ∀ {l : List AV} {m : List Value}, VRs σ l m → VRs (σ ++ τ) l m
  | _, _, .nil => .nil
  | _, _, .cons a v l m h t => .cons a v l m (VR.grow τ h) (VRs.grow τ t)
end

/-! ### Blocks -/

def exCode : AEx → Code
  | .norm => .skip
  | .exit i => .exit i
  | .ret => .ret

structure LoopR (σ : Sig) (L : ALoop) (l : Loop) : Prop where
  st : l.state = L.st
  pend : l.pending = L.pend.map exCode
  env : VRs σ L.env l.tmps.toList
  ps : l.params.toList = L.ps
  asg : l.assign = L.asg
  body : l.body = L.body

inductive ERs (σ : Sig) : List (AV × AV × Nat) → List MapEntry → Prop
  | nil : ERs σ [] []
  | cons (k v : AV) (b : Nat) (e : MapEntry) (l : List (AV × AV × Nat)) (m : List MapEntry) (hk : VR σ k e.key) (hv : VR σ v e.val) (hb : e.born = b) (t : ERs σ l m) : ERs σ ((k, v, b) :: l) (e :: m)

theorem ERs.grow {σ : Sig} (τ : Sig) : ∀ {l : List (AV × AV × Nat)} {m : List MapEntry}, ERs σ l m → ERs (σ ++ τ) l m
  | _, _, .nil => .nil
  | _, _, .cons k v b e l m hk hv hb t => .cons k v b e l m (hk.grow τ) (hv.grow τ) hb (t.grow τ)

/-- Nothing is told of it: given up, or an empty row. -/
def ABlk.void : ABlk → Bool
  | .dead => true
  | .cells [] _ _ _ => true
  | _ => false

def ObjR (σ : Sig) (p : Plc) (w : World) : ABlk → Prop
  | .cells vs esz md _ => (vs = [] ∧ (md = .own → p.spare = 0)) ∨ vs ≠ [] ∧ ∃ c t fr, w.heap[p.blk]? = some (.cells c t fr) ∧ VRs σ vs ((c.toList.drop p.off).take vs.length) ∧
      (md = .own → (∀ j, p.off ≤ j → j < c.size → ¬ (fr.1 ≤ j ∧ j < fr.2)) ∧ p.off + vs.length + p.spare * esz ≤ c.size)
  | .mp es clk => ∃ es', w.heap[p.blk]? = some (.map es' clk) ∧ ERs σ es es'.toList
  | .lp L => ∃ L', w.heap[p.blk]? = some (.loop L') ∧ LoopR σ L L'
  | .dead => True

theorem LoopR.grow {σ : Sig} (τ : Sig) {L : ALoop} {l : Loop} (h : LoopR σ L l) : LoopR (σ ++ τ) L l :=
  ⟨h.st, h.pend, h.env.grow τ, h.ps, h.asg, h.body⟩

theorem ObjR.grow {σ : Sig} (τ : Sig) {p : Plc} {w : World} {b : ABlk} (h : ObjR σ p w b) : ObjR (σ ++ τ) p w b := by
  cases b with
  | cells vs esz md par =>
    rcases h with h | ⟨h0, c, t, fr, h1, h2, h3⟩
    · exact .inl h
    · exact .inr ⟨h0, c, t, fr, h1, h2.grow τ, h3⟩
  | mp es clk => obtain ⟨es', h1, h2⟩ := h; exact ⟨es', h1, h2.grow τ⟩
  | lp L => obtain ⟨L', h1, h2⟩ := h; exact ⟨L', h1, h2.grow τ⟩
  | dead => trivial

theorem ObjR.world {σ : Sig} {p : Plc} {w w' : World} {b : ABlk} (h : ObjR σ p w b) (e : w'.heap[p.blk]? = w.heap[p.blk]?) : ObjR σ p w' b := by
  cases b with
  | cells vs esz md par =>
    rcases h with h | ⟨h0, c, t, fr, h1, h2, h3⟩
    · exact .inl h
    · exact .inr ⟨h0, c, t, fr, e.trans h1, h2, h3⟩
  | mp es clk => obtain ⟨es', h1, h2⟩ := h; exact ⟨es', e.trans h1, h2⟩
  | lp L => obtain ⟨L', h1, h2⟩ := h; exact ⟨L', e.trans h1, h2⟩
  | dead => trivial

theorem ObjR.lt {σ : Sig} {p : Plc} {w : World} {b : ABlk} (h : ObjR σ p w b) (hb : b.void = false) : p.blk < w.heap.size := by
  have key : ∀ o, w.heap[p.blk]? = some o → p.blk < w.heap.size := fun o h => (Array.getElem?_eq_some_iff.1 h).1
  cases b with
  | cells vs esz md par =>
    rcases h with ⟨rfl, _⟩ | ⟨_, c, t, fr, h1, _⟩
    · simp [ABlk.void] at hb
    · exact key _ h1
  | mp es clk => obtain ⟨_, h1, _⟩ := h; exact key _ h1
  | lp L => obtain ⟨_, h1, _⟩ := h; exact key _ h1
  | dead => simp [ABlk.void] at hb

theorem ObjR.of_void {σ : Sig} {p : Plc} {w w' : World} {b : ABlk} (h : ObjR σ p w b) (hb : b.void = true) : ObjR σ p w' b := by
  unfold ABlk.void at hb
  split at hb
  · trivial
  · rcases h with h | ⟨h0, _⟩
    · exact .inl h
    · exact absurd rfl h0
  · simp at hb

theorem ObjR.keep {σ : Sig} {p : Plc} {w w' : World} {b : ABlk} (h : ObjR σ p w b) (e : b.void = false → w'.heap[p.blk]? = w.heap[p.blk]?) : ObjR σ p w' b := by
  cases hb : b.void with
  | true => exact h.of_void hb
  | false => exact h.world (e hb)

/-- The call's own: not the caller's, and not given up. -/
def ABlk.mine : ABlk → Bool
  | .cells [] _ _ _ => false
  | .cells _ _ .far _ => false
  | .dead => false
  | _ => true

def ABlk.par : ABlk → Option Nat
  | .cells _ _ _ p => p
  | _ => none

def ABlk.isRo : ABlk → Bool
  | .cells _ _ .ro _ => true
  | _ => false

def ABlk.isFar : ABlk → Bool
  | .cells _ _ .far _ => true
  | _ => false

theorem ABlk.mine_ne {b : ABlk} (h : b.mine = true) : b.void = false := by
  unfold ABlk.void
  split
  · simp [ABlk.mine] at h
  · simp [ABlk.mine] at h
  · rfl

theorem mine_cells {v : AV} {vs : List AV} {e : Nat} {md : Md} {par : Option Nat} : (ABlk.cells (v :: vs) e md par).mine = decide (md ≠ .far) := by
  cases md <;> rfl
theorem mine_ne_nil {vs : List AV} {e : Nat} {md : Md} {par : Option Nat} (h : (ABlk.cells vs e md par).mine = true) : vs ≠ [] ∧ md ≠ .far := by
  cases vs with
  | nil => simp [ABlk.mine] at h
  | cons v vs => rw [mine_cells] at h; simpa using h
theorem mine_of {vs : List AV} {e : Nat} {md : Md} {par : Option Nat} (h : vs ≠ []) (hm : md ≠ .far) : (ABlk.cells vs e md par).mine = true := by
  cases vs with
  | nil => exact absurd rfl h
  | cons v vs => rw [mine_cells]; simpa using hm

structure Rel (W0 : World) (σ : Sig) (h : AHeap) (w : World) : Prop where
  len : σ.length = h.length
  obj : ∀ {i : Nat} {b : ABlk} {p : Plc}, h[i]? = some b → σ[i]? = some p → ObjR σ p w b
  far : ∀ {i : Nat} {vs : List AV} {e : Nat} {par : Option Nat} {p : Plc}, h[i]? = some (.cells vs e .far par) → σ[i]? = some p → vs ≠ [] → p.blk < W0.heap.size
  own : ∀ {i : Nat} {b : ABlk} {p : Plc}, h[i]? = some b → σ[i]? = some p → b.mine = true → W0.heap.size ≤ p.blk
  sep : ∀ {i j : Nat} {b b' : ABlk} {p q : Plc}, i ≠ j → h[i]? = some b → h[j]? = some b' → σ[i]? = some p → σ[j]? = some q → b.mine = true → b'.mine = true → p.blk = q.blk →
    (b.par = some j ∧ b'.isRo = true) ∨ (b'.par = some i ∧ b.isRo = true)
  below : RowKit.Below W0.heap.size W0 w

/-- Is a block of the world one of the call's own that is told? -/
def Own (h : AHeap) (σ : Sig) (b : Nat) : Prop := ∃ (i : Nat) (blk : ABlk) (p : Plc), h[i]? = some blk ∧ σ[i]? = some p ∧ blk.mine = true ∧ p.blk = b

/-- What a step may turn: what is told as its own; all else lies as it lay. -/
structure Stp (σ : Sig) (h : AHeap) (w : World) (σ' : Sig) (h' : AHeap) (w' : World) : Prop where
  ext : ∃ τ, σ' = σ ++ τ
  own : ∀ b, Own h' σ' b → Own h σ b ∨ w.heap.size ≤ b
  same : ∀ b, b < w.heap.size → ¬ Own h σ b → w'.heap[b]? = w.heap[b]?
  size : w.heap.size ≤ w'.heap.size

theorem Stp.refl (σ : Sig) (h : AHeap) (w : World) : Stp σ h w σ h w := ⟨⟨[], by simp⟩, fun _ h => .inl h, fun _ _ _ => rfl, Nat.le_refl _⟩

theorem Stp.trans {σ σ' σ'' : Sig} {h h' h'' : AHeap} {w w' w'' : World} (a : Stp σ h w σ' h' w') (b : Stp σ' h' w' σ'' h'' w'') : Stp σ h w σ'' h'' w'' := by
  obtain ⟨τ, rfl⟩ := a.ext
  obtain ⟨τ', rfl⟩ := b.ext
  refine ⟨⟨τ ++ τ', by simp⟩, fun x hx => ?_, fun x hx hn => ?_, Nat.le_trans a.size b.size⟩
  · rcases b.own x hx with h1 | h1
    · exact a.own x h1
    · exact .inr (Nat.le_trans a.size h1)
  · rw [b.same x (Nat.lt_of_lt_of_le hx a.size) fun h1 => ?_, a.same x hx hn]
    rcases a.own x h1 with h2 | h2
    · exact hn h2
    · omega

theorem Stp.vr {σ σ' : Sig} {h h' : AHeap} {w w' : World} (a : Stp σ h w σ' h' w') {x : AV} {v : Value} (hv : VR σ x v) : VR σ' x v := by
  obtain ⟨τ, rfl⟩ := a.ext; exact hv.grow τ
theorem Stp.vrs {σ σ' : Sig} {h h' : AHeap} {w w' : World} (a : Stp σ h w σ' h' w') {x : List AV} {v : List Value} (hv : VRs σ x v) : VRs σ' x v := by
  obtain ⟨τ, rfl⟩ := a.ext; exact hv.grow τ

variable {W0 : World} {σ : Sig} {h : AHeap} {w : World}

theorem Rel.get (R : Rel W0 σ h w) {i : Nat} {b : ABlk} (hb : h[i]? = some b) : ∃ p, σ[i]? = some p ∧ ObjR σ p w b := by
  have hi := (List.getElem?_eq_some_iff.1 hb).1
  have hp : σ[i]? = some (σ[i]'(by rw [R.len]; exact hi)) := List.getElem?_eq_getElem _
  exact ⟨_, hp, R.obj hb hp⟩

/-- The world's heap alone is asked. -/
theorem Rel.heapEq (R : Rel W0 σ h w) {w' : World} (e : w'.heap = w.heap) (b : RowKit.Below W0.heap.size W0 w') : Rel W0 σ h w' :=
  ⟨R.len, fun h1 h2 => (R.obj h1 h2).world (by rw [e]), R.far, R.own, R.sep, b⟩

theorem Rel.drew (R : Rel W0 σ h w) : Rel W0 σ h w.drew := R.heapEq rfl R.below.drew
theorem Stp.drew (σ : Sig) (h : AHeap) (w : World) : Stp σ h w σ h w.drew := ⟨⟨[], by simp⟩, fun _ h => .inl h, fun _ _ _ => rfl, Nat.le_refl _⟩

/-- A new block. -/
theorem Rel.push (R : Rel W0 σ h w) (o : Obj) (b : ABlk) (sp : Nat) (hm : b.isFar = false) (ho : ObjR (σ ++ [⟨w.heap.size, 0, sp⟩]) ⟨w.heap.size, 0, sp⟩ (w.alloc o) b) :
    Rel W0 (σ ++ [⟨w.heap.size, 0, sp⟩]) (h ++ [b]) (w.alloc o) ∧ Stp σ h w (σ ++ [⟨w.heap.size, 0, sp⟩]) (h ++ [b]) (w.alloc o) := by
  have hold : ∀ k, k < w.heap.size → (w.alloc o).heap[k]? = w.heap[k]? := fun k hk => RowKit.Below.heap_alloc w o k hk
  have key : ∀ {i : Nat} {b' : ABlk} {p : Plc}, (h ++ [b])[i]? = some b' → (σ ++ [⟨w.heap.size, 0, sp⟩])[i]? = some p →
      (h[i]? = some b' ∧ σ[i]? = some p) ∨ (i = h.length ∧ b' = b ∧ p = ⟨w.heap.size, 0, sp⟩) := by
    intro i b' p h1 h2
    rcases Nat.lt_or_ge i h.length with hi | hi
    · rw [List.getElem?_append_left hi] at h1
      rw [List.getElem?_append_left (by rw [R.len]; exact hi)] at h2
      exact .inl ⟨h1, h2⟩
    · have hi' := (List.getElem?_eq_some_iff.1 h1).1
      simp at hi'
      have e : i = h.length := by omega
      subst e
      rw [List.getElem?_append_right (by simp)] at h1
      rw [List.getElem?_append_right (by rw [R.len]; simp)] at h2
      simp [R.len] at h1 h2
      exact .inr ⟨rfl, h1.symm, h2.symm⟩
  have hlt : ∀ {i : Nat} {b' : ABlk} {p : Plc}, h[i]? = some b' → σ[i]? = some p → b'.void = false → p.blk < w.heap.size := fun h1 h2 h3 => (R.obj h1 h2).lt h3
  refine ⟨⟨by simp [R.len], ?_, ?_, ?_, ?_, R.below.alloc R.below.size o⟩, ⟨⟨_, rfl⟩, ?_, fun k hk _ => hold k hk, by simp⟩⟩
  · intro i b' p h1 h2
    rcases key h1 h2 with ⟨h1, h2⟩ | ⟨rfl, rfl, rfl⟩
    · exact ((R.obj h1 h2).grow _).keep fun hd => hold _ (hlt h1 h2 hd)
    · exact ho
  · intro i vs e par p h1 h2
    rcases key h1 h2 with ⟨h1, h2⟩ | ⟨rfl, rfl, rfl⟩
    · exact R.far h1 h2
    · simp [ABlk.isFar] at hm
  · intro i b' p h1 h2 hb
    rcases key h1 h2 with ⟨h1, h2⟩ | ⟨rfl, rfl, rfl⟩
    · exact R.own h1 h2 hb
    · exact R.below.size
  · intro i j b1 b2 p q hij h1 h2 h3 h4 hb1 hb2 hpq
    rcases key h1 h3 with ⟨k1, k3⟩ | ⟨e1, e2, e3⟩
    · rcases key h2 h4 with ⟨k2, k4⟩ | ⟨f1, f2, f3⟩
      · exact R.sep hij k1 k2 k3 k4 hb1 hb2 hpq
      · have := hlt k1 k3 (ABlk.mine_ne hb1); rw [f3] at hpq; simp at hpq; omega
    · rcases key h2 h4 with ⟨k2, k4⟩ | ⟨f1, f2, f3⟩
      · have := hlt k2 k4 (ABlk.mine_ne hb2); rw [e3] at hpq; simp at hpq; omega
      · exact absurd (e1.trans f1.symm) hij
  · rintro x ⟨i, b', p, h1, h2, h3, rfl⟩
    rcases key h1 h2 with ⟨h1, h2⟩ | ⟨rfl, rfl, rfl⟩
    · exact .inl ⟨i, b', p, h1, h2, h3, rfl⟩
    · exact .inr (Nat.le_refl _)

end Go.Abs
