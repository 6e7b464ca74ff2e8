/- Rows of bytes; words of them. -/
import Derived.Test.YthkicndbaaconaaNum
set_option autoImplicit false
namespace Go.Abs

/-- The loops over functions in a piece of code. -/
def rangesOf : Code → List (Code × Code)
  | .seq a b => rangesOf a ++ rangesOf b
  | .cond _ a b => rangesOf a ++ rangesOf b
  | .block _ a => rangesOf a
  | .loop c => rangesOf c
  | .rangeFunc _ _ a b => [(a, b)]
  | _ => []
def rangeIn (c : Code) (i : Nat) : Code × Code := (rangesOf c).getD i (.skip, .skip)

noncomputable def cdec (p : Prop) : Bool := @decide p (Classical.propDecidable p)
theorem cdec_true {p : Prop} : cdec p = true ↔ p := by simp [cdec]

def ByteL (zs : List Int) : Prop := ∀ z ∈ zs, 0 ≤ z ∧ z < 256

/-- The words of a row, added; an odd last byte is a high one. -/
def wsum : List Int → Int
  | [] => 0
  | [a] => a * 256
  | a :: b :: r => a * 256 + b + wsum r

theorem wsum_range : ∀ {zs : List Int}, ByteL zs → 0 ≤ wsum zs ∧ wsum zs ≤ 65535 * (zs.length : Int)
  | [], _ => by simp [wsum]
  | [a], h => by
    have := h a (by simp)
    simp [wsum]; omega
  | a :: b :: r, h => by
    have h1 := h a (by simp)
    have h2 := h b (by simp)
    have h3 := wsum_range (zs := r) fun z hz => h z (by simp [hz])
    simp only [wsum, List.length_cons]
    omega

theorem intsA_length (k : IntKind) (zs : List Int) : (intsA k zs).length = zs.length := by simp [intsA]

theorem intsA_get (k : IntKind) (zs : List Int) (i : Nat) : (intsA k zs)[i]? = (zs[i]?).map (AV.int k) := by simp [intsA]

theorem isIntV_ints {k : IntKind} {zs : List Int} {i : Nat} (h : i < zs.length) : isIntV k (intsA k zs)[i]? = true := by
  rw [intsA_get, List.getElem?_eq_getElem h]; simp [isIntV]

theorem intV_ints {k : IntKind} {zs : List Int} {i : Nat} : intV (intsA k zs)[i]? = zs.getD i 0 := by
  rw [intsA_get, List.getD_eq_getElem?_getD]
  cases zs[i]? <;> simp [intV]

theorem ByteL.get {zs : List Int} (h : ByteL zs) (i : Nat) : 0 ≤ zs.getD i 0 ∧ zs.getD i 0 < 256 := by
  rw [List.getD_eq_getElem?_getD]
  cases hi : zs[i]? with
  | none => simp
  | some z => simpa using h z (List.mem_of_getElem? hi)

theorem wsum_drop {zs : List Int} {i : Nat} (h : i < zs.length) : wsum (zs.drop i) = zs.getD i 0 * 256 + zs.getD (i + 1) 0 + wsum (zs.drop (i + 2)) := by
  rw [List.drop_eq_getElem_cons h]
  by_cases h2 : i + 1 < zs.length
  · rw [List.drop_eq_getElem_cons h2]
    simp [wsum, List.getD_eq_getElem?_getD, h, h2]
  · have e1 : zs.drop (i + 1) = [] := by simp; omega
    have e2 : zs.drop (i + 2) = [] := by simp; omega
    rw [e1, e2]
    have e3 : zs[i + 1]? = none := by simp; omega
    simp [wsum, List.getD_eq_getElem?_getD, h, e3]

theorem or16 {a b : Int} (ha : 0 ≤ a ∧ a < 256) (hb : 0 ≤ b ∧ b < 256) : abits .u16 (· ||| ·) (a * 256) b = a * 256 + b := by
  obtain ⟨x, rfl⟩ := Int.eq_ofNat_of_zero_le ha.1
  obtain ⟨y, rfl⟩ := Int.eq_ofNat_of_zero_le hb.1
  show IntKind.u16.wrap ((BitVec.ofInt 16 ((x : Int) * 256) ||| BitVec.ofInt 16 (y : Int)).toNat : Int) = _
  have e : ((x : Int) * 256) = ((x * 256 : Nat) : Int) := by omega
  rw [e, BitVec.toNat_or, ofIntNat 16 (x * 256) (by omega), ofIntNat 16 y (by omega)]
  have : x * 256 ||| y = x * 256 + y := by
    have := Nat.two_pow_add_eq_or_of_lt (i := 8) (b := y) (by omega) x
    rw [Nat.mul_comm x 256, show (256 : Nat) = 2 ^ 8 by rfl, ← this]
  rw [this, wrapU16 (by omega)]
  omega

theorem or64 {a b : Int} (ha : 0 ≤ a ∧ a < 72057594037927936) (hb : 0 ≤ b ∧ b < 256) : abits .u64 (· ||| ·) (a * 256) b = a * 256 + b := by
  obtain ⟨x, rfl⟩ := Int.eq_ofNat_of_zero_le ha.1
  obtain ⟨y, rfl⟩ := Int.eq_ofNat_of_zero_le hb.1
  show IntKind.u64.wrap ((BitVec.ofInt 64 ((x : Int) * 256) ||| BitVec.ofInt 64 (y : Int)).toNat : Int) = _
  have e : ((x : Int) * 256) = ((x * 256 : Nat) : Int) := by omega
  rw [e, BitVec.toNat_or, ofIntNat 64 (x * 256) (by omega), ofIntNat 64 y (by omega)]
  have : x * 256 ||| y = x * 256 + y := by
    have := Nat.two_pow_add_eq_or_of_lt (i := 8) (b := y) (by omega) x
    rw [Nat.mul_comm x 256, show (256 : Nat) = 2 ^ 8 by rfl, ← this]
  rw [this, wrapU64 (by omega)]
  omega

/-! ### A row of bytes in memory, read alone -/

def intD : AV → Int
  | .int _ n => n
  | _ => 0

def rowI (h : AHeap) (b : Option (Nat × Nat)) (n : Nat) : List Int :=
  match b with
  | none => []
  | some (i, o) => match h[i]? with
    | some (.cells vs _ _ _) => ((vs.drop o).take n).map intD
    | _ => []

/-- n bytes lie there. -/
def byteRow (h : AHeap) (b : Option (Nat × Nat)) (n : Nat) (zs : List Int) : Prop :=
  zs.length = n ∧ ByteL zs ∧
    match b with
    | none => True
    | some (i, o) => ∃ vs e md par, h[i]? = some (.cells vs e md par) ∧ o + n ≤ vs.length ∧ (vs.drop o).take n = intsA .u8 zs

theorem map_intD (k : IntKind) (zs : List Int) : (intsA k zs).map intD = zs := by
  simp only [intsA, List.map_map]
  induction zs with
  | nil => rfl
  | cons z zs ih => simp only [List.map_cons, ih]; rfl

def goodB (h : AHeap) (b : Option (Nat × Nat)) (n : Nat) : Prop := (∃ zs, byteRow h b n zs) ∧ (b = none → n = 0)

theorem goodB.row {h : AHeap} {b : Option (Nat × Nat)} {n : Nat} (g : goodB h b n) : byteRow h b n (rowI h b n) := by
  obtain ⟨⟨zs, h1, h2, h3⟩, h4⟩ := g
  cases b with
  | none =>
    have : n = 0 := h4 rfl
    subst this
    exact ⟨rfl, fun z hz => by simp [rowI] at hz, trivial⟩
  | some q =>
    obtain ⟨i, o⟩ := q
    obtain ⟨vs, e, md, par, e1, e2, e3⟩ := h3
    have : rowI h (some (i, o)) n = zs := by simp only [rowI, e1, e3, map_intD]
    rw [this]
    exact ⟨h1, h2, vs, e, md, par, e1, e2, e3⟩

/-- The less memory for one slice that is only read. -/
def base1 (b : Option (Nat × Nat)) : List (Option (Nat × Nat)) := [b]
def at1 (b : Option (Nat × Nat)) (k : Nat) : Option (Nat × Nat) := b.map fun _ => (k, 0)

theorem rens_ints (ρ : Nat → Option (Nat × Nat)) (k : IntKind) : ∀ zs : List Int, AV.rens ρ (intsA k zs) = some (intsA k zs)
  | [] => rfl
  | z :: zs => by
    have ih := rens_ints ρ k zs
    show AV.rens ρ (AV.int k z :: intsA k zs) = _
    simp only [AV.rens, AV.ren, ih]
    rfl

theorem less1 {h : AHeap} {b : Option (Nat × Nat)} {n : Nat} {zs : List Int} (hr : byteRow h b n zs) (hb : b = none → n = 0) : Less (base1 b) h [.cells (intsA .u8 zs) 1 .far none] := by
  obtain ⟨h1, h2, h3⟩ := hr
  refine ⟨rfl, fun k bl hk => ?_⟩
  have hk0 : k = 0 := by
    have := (List.getElem?_eq_some_iff.1 hk).1
    simp at this; exact this
  subst hk0
  simp at hk; subst hk
  cases b with
  | none =>
    have : zs = [] := List.eq_nil_of_length_eq_zero (by rw [h1]; exact hb rfl)
    subst this
    exact .inl ⟨1, none, rfl, rfl⟩
  | some q =>
    obtain ⟨i, o⟩ := q
    obtain ⟨vs, e, md, par, e1, e2, e3⟩ := h3
    exact .inr ⟨intsA .u8 zs, 1, none, i, o, vs, e, md, par, rfl, rfl, e1, by rw [intsA_length, h1]; exact e2, by rw [rens_ints, intsA_length, h1, e3]⟩

theorem ren_at1 {b : Option (Nat × Nat)} {n c : Nat} {ex : Bool} : AV.ren (given (base1 b)) (.sl (at1 b 0) n c ex) = some (.sl b n c ex) := by
  cases b with
  | none => rfl
  | some q => obtain ⟨i, o⟩ := q; simp [at1, AV.ren, given, base1]

theorem less_at {h : AHeap} {base : List (Option (Nat × Nat))} {k : Nat} {b : Option (Nat × Nat)} {n : Nat} {zs : List Int} (hk : base[k]? = some b) (hr : byteRow h b n zs) (hb : b = none → n = 0) :
    (∃ e par, ABlk.cells (intsA .u8 zs) 1 .far none = .cells [] e .far par ∧ base[k]? = some none) ∨ ∃ vs e par i o vs' e' md' par', ABlk.cells (intsA .u8 zs) 1 .far none = .cells vs e .far par ∧ base[k]? = some (some (i, o)) ∧
      h[i]? = some (.cells vs' e' md' par') ∧ o + vs.length ≤ vs'.length ∧ AV.rens (given base) vs = some ((vs'.drop o).take vs.length) := by
  obtain ⟨h1, h2, h3⟩ := hr
  cases b with
  | none =>
    have : zs = [] := List.eq_nil_of_length_eq_zero (by rw [h1]; exact hb rfl)
    subst this
    exact .inl ⟨1, none, rfl, hk⟩
  | some q =>
    obtain ⟨i, o⟩ := q
    obtain ⟨vs, e, md, par, e1, e2, e3⟩ := h3
    exact .inr ⟨intsA .u8 zs, 1, none, i, o, vs, e, md, par, rfl, hk, e1, by rw [intsA_length, h1]; exact e2, by rw [rens_ints, intsA_length, h1, e3]⟩

theorem less2 {h : AHeap} {b bt : Option (Nat × Nat)} {n nt : Nat} {zs ts : List Int} (hr : byteRow h b n zs) (hb : b = none → n = 0) (hrt : byteRow h bt nt ts) (hbt : bt = none → nt = 0) :
    Less [b, bt] h [.cells (intsA .u8 zs) 1 .far none, .cells (intsA .u8 ts) 1 .far none] := by
  refine ⟨rfl, fun k bl hk => ?_⟩
  match k, hk with
  | 0, hk => simp at hk; subst hk; exact less_at rfl hr hb
  | 1, hk => simp at hk; subst hk; exact less_at rfl hrt hbt

end Go.Abs
