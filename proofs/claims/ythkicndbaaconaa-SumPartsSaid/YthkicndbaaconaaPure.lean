/- What the document says, of rows of bytes and numbers alone. -/
import Derived.Test.YthkicndbaaconaaFix
set_option autoImplicit false
set_option linter.unusedVariables false
namespace Go.Abs

/-- The sum of all words. -/
def wsum : List UInt8 → Int
  | [] => 0
  | [a] => (a.toNat : Int) * 256
  | a :: b :: r => (a.toNat : Int) * 256 + b.toNat + wsum r

theorem wsum_range : ∀ l : List UInt8, 0 ≤ wsum l ∧ wsum l ≤ 65535 * (l.length : Int)
  | [] => by simp [wsum]
  | [a] => by have := a.toNat_lt; simp [wsum]; omega
  | a :: b :: r => by
    have h1 := a.toNat_lt
    have h2 := b.toNat_lt
    have := wsum_range r
    simp [wsum]; omega

theorem byt_cons0 (a : UInt8) (l : List UInt8) : byt (a :: l) 0 = a.toNat := rfl
theorem byt_cons (a : UInt8) (l : List UInt8) (i : Nat) : byt (a :: l) (i + 1) = byt l i := by simp [byt, List.getD]
theorem byt_ge {l : List UInt8} {i : Nat} (h : l.length ≤ i) : byt l i = 0 := by simp [byt, List.getD, List.getElem?_eq_none h]

theorem wsum_step {l : List UInt8} {i : Nat} (h : i < l.length) : wsum (l.drop i) = word l i + wsum (l.drop (i + 2)) := by
  rw [List.drop_eq_getElem_cons h]
  have e1 : byt l i = (l[i]).toNat := by simp [byt, List.getD, h]
  by_cases h2 : i + 1 < l.length
  · rw [List.drop_eq_getElem_cons h2]
    have e2 : byt l (i + 1) = (l[i + 1]).toNat := by simp [byt, List.getD, h2]
    simp [wsum, word, e1, e2]
  · rw [List.drop_of_length_le (show l.length ≤ i + 1 by omega), List.drop_of_length_le (show l.length ≤ i + 2 by omega)]
    simp [wsum, word, e1, byt_ge (show l.length ≤ i + 1 by omega)]

/-- The sum of the words, begun with a number, folded. -/
def sumI (l : List UInt8) (s : Int) : Int := foldI (s + wsum l)
/-- The checksum. -/
def chkI (l : List UInt8) : Int := 65535 - sumI l 0
/-- A checksum with a word of it another one. -/
def updI (o f t : Int) : Int := 65535 - foldI ((65535 - o) + (65535 - f) + t)
/-- A checksum, changed word by word. -/
def chgI : Int → List UInt8 → List UInt8 → Int
  | o, a :: b :: r, c :: d :: s => chgI (updI o ((a.toNat : Int) * 256 + b.toNat) ((c.toNat : Int) * 256 + d.toNat)) r s
  | o, _, _ => o
def changeI (o : Int) (f t : List UInt8) : Int := if f.length = t.length ∧ f.length % 2 = 0 then chgI o f t else o

theorem updI_range (o f t : Int) : 0 ≤ updI o f t ∧ updI o f t < 65536 := by
  have := foldI_range ((65535 - o) + (65535 - f) + t)
  unfold updI; omega
theorem sumI_range (l : List UInt8) (s : Int) : 0 ≤ sumI l s ∧ sumI l s < 65536 := foldI_range _
theorem chkI_range (l : List UInt8) : 0 ≤ chkI l ∧ chkI l < 65536 := by have := sumI_range l 0; unfold chkI; omega

theorem chgI_step {o : Int} {f t : List UInt8} {i : Nat} (h1 : i + 1 < f.length) (h2 : i + 1 < t.length) : chgI o (f.drop i) (t.drop i) = chgI (updI o (word f i) (word t i)) (f.drop (i + 2)) (t.drop (i + 2)) := by
  rw [List.drop_eq_getElem_cons (show i < f.length by omega), List.drop_eq_getElem_cons h1, List.drop_eq_getElem_cons (show i < t.length by omega), List.drop_eq_getElem_cons h2]
  simp [chgI, word, byt, List.getD, h1, h2, show i < f.length by omega, show i < t.length by omega]
theorem chgI_range : ∀ (f t : List UInt8) (o : Int), 0 ≤ o ∧ o < 65536 → 0 ≤ chgI o f t ∧ chgI o f t < 65536
  | a :: b :: r, c :: d :: s, o, _ => by simp only [chgI]; exact chgI_range r s _ (updI_range _ _ _)
  | [], _, o, h => by simpa [chgI] using h
  | [_], _, o, h => by simpa [chgI] using h
  | _ :: _ :: _, [], o, h => by simpa [chgI] using h
  | _ :: _ :: _, [_], o, h => by simpa [chgI] using h
theorem changeI_range {o : Int} (f t : List UInt8) (h : 0 ≤ o ∧ o < 65536) : 0 ≤ changeI o f t ∧ changeI o f t < 65536 := by
  unfold changeI
  split
  · exact chgI_range f t o h
  · exact h

theorem or16w {a b : Int} (ha : 0 ≤ a ∧ a < 256) (hb : 0 ≤ b ∧ b < 256) : abits .u16 (· ||| ·) (IntKind.u16.wrap (IntKind.u16.wrap a * 256)) (IntKind.u16.wrap b) = a * 256 + b := by
  rw [wrapU16 (n := a) (by omega), wrapU16 (by omega), wrapU16 (by omega)]
  obtain ⟨x, rfl⟩ := Int.eq_ofNat_of_zero_le ha.1
  obtain ⟨y, rfl⟩ := Int.eq_ofNat_of_zero_le hb.1
  have e1 : ((x : Int) * 256) = ((x * 256 : Nat) : Int) := by omega
  rw [e1]
  show IntKind.u16.wrap ((BitVec.ofInt 16 ((x * 256 : Nat) : Int) ||| BitVec.ofInt 16 (y : Int)).toNat : Int) = _
  rw [BitVec.toNat_or, ofIntNat 16 _ (by omega), ofIntNat 16 _ (by omega)]
  have e2 : x * 256 ||| y = x * 256 + y := by
    have := Nat.two_pow_add_eq_or_of_lt (i := 8) (b := y) (by omega) x
    rw [show x * 256 = 2 ^ 8 * x by omega]
    exact this.symm
  rw [e2, wrapU16 (by omega)]
  omega

/-! ### Laws of sums -/

theorem wsum_append : ∀ (a b : List UInt8), a.length % 2 = 0 → wsum (a ++ b) = wsum a + wsum b
  | [], b, _ => by simp [wsum]
  | [_], b, h => by simp at h
  | x :: y :: r, b, h => by
    have := wsum_append r b (by simp at h; omega)
    simp [wsum, this]; omega

theorem foldI_add {x y : Int} (hx : 0 ≤ x) (hy : 0 ≤ y) : foldI (foldI x + y) = foldI (x + y) := by
  unfold foldI
  by_cases h0 : x = 0
  · subst h0; simp
  · rw [if_neg h0]
    have h1 : (x - 1) % 65535 + 1 + y ≠ 0 := by omega
    have h2 : x + y ≠ 0 := by omega
    rw [if_neg h1, if_neg h2]; omega

theorem sumI_append {a b : List UInt8} {s : Int} (ha : a.length % 2 = 0) (hs : 0 ≤ s) : sumI (a ++ b) s = sumI b (sumI a s) := by
  have h1 := wsum_range a
  have h2 := wsum_range b
  unfold sumI
  rw [wsum_append a b ha, foldI_add (by omega) h2.1]
  congr 1; omega

theorem bOk_row {h : AHeap} {k n r : Nat} {e : Bool} {vs : List AV} {md : Md} {par : Option Nat} {l : List UInt8} (hk : h[k]? = some (.cells vs 1 md par)) (hv : vs = bys l) (hn : n = l.length) :
    bOk h (.sl (some (k, 0)) n r e) = true ∧ bOf h (.sl (some (k, 0)) n r e) = l := by
  subst hv hn
  unfold bOk rowOk bOf rowOf
  simp only [hk]
  simp [List.take_of_length_le]

/-- A part of a row. -/
theorem bOk_part {h : AHeap} {k o n r : Nat} {e : Bool} {vs : List AV} {md : Md} {par : Option Nat} {l : List UInt8} (hk : h[k]? = some (.cells vs 1 md par)) (hv : vs = bys l) (hn : o + n ≤ l.length) :
    bOk h (.sl (some (k, o)) n r e) = true ∧ bOf h (.sl (some (k, o)) n r e) = (l.drop o).take n := by
  subst hv
  unfold bOk rowOk bOf rowOf
  simp only [hk]
  simp
  omega

theorem bOk_far {h : AHeap} {k : Nat} {l : List UInt8} {md : Md} {par : Option Nat} (hk : h[k]? = some (.cells (bys l) 1 md par)) : bOk h (slB k l) = true ∧ bOf h (slB k l) = l := by
  unfold bOk rowOk bOf rowOf
  simp only [slB, hk]
  simp [List.take_of_length_le]

theorem tmod2 (n : Nat) : ((n : Int)).tmod 2 = ((n % 2 : Nat) : Int) := rfl

end Go.Abs
