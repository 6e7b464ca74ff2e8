/- Loops that count; numbers made of bytes. -/
import Derived.Test.YtmlenlfhciapfaaNum
import Derived.Test.YtmlenlfhciapfaaRow
set_option autoImplicit false
set_option linter.unusedVariables false
namespace Go.Abs
variable {P : Program}

/-- So many rounds, one state after the other; then it is left. -/
theorem loop_up {body : List AV → AHeap → Option (AEx × List AV × AHeap)} (st : Nat → List AV × AHeap) {n : Nat} {e : AEx} {vs : List AV} {h : AHeap} (he : e ≠ .norm)
    (step : ∀ i, i < n → body (st i).1 (st i).2 = some (.norm, (st (i + 1)).1, (st (i + 1)).2)) (stop : body (st n).1 (st n).2 = some (e, vs, h)) : ∃ j, loopG body j (st 0).1 (st 0).2 = some (e, vs, h) := by
  have key : ∀ k i, i + k = n → ∃ j, loopG body j (st i).1 (st i).2 = some (e, vs, h) := by
    intro k
    induction k with
    | zero =>
      intro i hi
      have : i = n := by omega
      subst this
      refine ⟨1, ?_⟩
      simp only [loopG, stop, Option.bind_some]
    | succ k ih =>
      intro i hi
      obtain ⟨j, hj⟩ := ih (i + 1) (by omega)
      refine ⟨j + 1, ?_⟩
      simp only [loopG, step i (by omega), Option.bind_some]
      exact hj
  exact key n 0 (by omega)

noncomputable def cdec (p : Prop) : Bool := @decide p (Classical.propDecidable p)
theorem cdec_true {p : Prop} : cdec p = true ↔ p := by simp [cdec]

/-- The high byte first. -/
def beN (l : List UInt8) : Int := l.foldl (fun x b => x * 256 + (b.toNat : Int)) 0
theorem beN_snoc (l : List UInt8) (b : UInt8) : beN (l ++ [b]) = beN l * 256 + b.toNat := by simp [beN]
theorem beN_range (l : List UInt8) : 0 ≤ beN l ∧ beN l < 256 ^ l.length := by
  suffices h : ∀ k, ∀ l : List UInt8, l.length = k → 0 ≤ beN l ∧ beN l < 256 ^ k from h _ l rfl
  intro k
  induction k with
  | zero => intro l hl; have : l = [] := List.eq_nil_of_length_eq_zero hl; subst this; simp [beN]
  | succ k ih =>
    intro l hl
    obtain ⟨m, b, rfl⟩ : ∃ m b, l = m ++ [b] := ⟨l.dropLast, l.getLast (by rintro rfl; simp at hl), (List.dropLast_concat_getLast _).symm⟩
    rw [beN_snoc]
    have := ih m (by simpa using hl)
    have hb := b.toNat_lt
    rw [Int.pow_succ]
    constructor
    · omega
    · omega
theorem beN_take {l : List UInt8} {i : Nat} (h : i < l.length) : beN (l.take (i + 1)) = beN (l.take i) * 256 + byt l i := by
  have : l.take (i + 1) = l.take i ++ [l[i]] := by rw [List.take_add_one, List.getElem?_eq_getElem h]; rfl
  rw [this, beN_snoc]
  simp [byt, List.getD, h]

theorem or64w {a b : Int} (ha : 0 ≤ a ∧ a < 72057594037927936) (hb : 0 ≤ b ∧ b < 256) : abits .u64 (· ||| ·) (IntKind.u64.wrap (a * 256)) (IntKind.u64.wrap b) = a * 256 + b := by
  rw [wrapU64 (by omega), wrapU64 (by omega)]
  obtain ⟨x, rfl⟩ := Int.eq_ofNat_of_zero_le ha.1
  obtain ⟨y, rfl⟩ := Int.eq_ofNat_of_zero_le hb.1
  have e1 : ((x : Int) * 256) = ((x * 256 : Nat) : Int) := by omega
  rw [e1]
  show IntKind.u64.wrap ((BitVec.ofInt 64 ((x * 256 : Nat) : Int) ||| BitVec.ofInt 64 (y : Int)).toNat : Int) = _
  rw [BitVec.toNat_or, ofIntNat 64 _ (by omega), ofIntNat 64 _ (by omega)]
  have e2 : x * 256 ||| y = x * 256 + y := by
    have := Nat.two_pow_add_eq_or_of_lt (i := 8) (b := y) (by omega) x
    rw [show x * 256 = 2 ^ 8 * x by omega]
    exact this.symm
  rw [e2, wrapU64 (by omega)]
  omega

/-- A word: two bytes. -/
def word (l : List UInt8) (i : Nat) : Int := byt l i * 256 + byt l (i + 1)
theorem word_range (l : List UInt8) (i : Nat) : 0 ≤ word l i ∧ word l i < 65536 := by
  have h1 := byt_range l i
  have h2 := byt_range l (i + 1)
  unfold word; omega

theorem byt_drop (l : List UInt8) (p i : Nat) : byt (l.drop p) i = byt l (p + i) := by simp [byt, List.getD]
theorem byt_take {l : List UInt8} {n i : Nat} (h : i < n) : byt (l.take n) i = byt l i := by simp [byt, List.getD, List.getElem?_take, h]

/-- The number of n bytes at a place. -/
def numAt (l : List UInt8) (p n : Nat) : Int := beN ((l.drop p).take n)
theorem numAt_succ {l : List UInt8} {p n : Nat} (h : p + n < l.length) : numAt l p (n + 1) = numAt l p n * 256 + byt l (p + n) := by
  unfold numAt
  rw [beN_take (by simp; omega), byt_drop]
theorem numAt_zero (l : List UInt8) (p : Nat) : numAt l p 0 = 0 := by simp [numAt, beN]
theorem numAt_range (l : List UInt8) (p n : Nat) : 0 ≤ numAt l p n ∧ numAt l p n < 256 ^ n := by
  have h := beN_range ((l.drop p).take n)
  have : ((l.drop p).take n).length ≤ n := by rw [List.length_take]; exact Nat.min_le_left _ _
  have h2 : (256 : Int) ^ ((l.drop p).take n).length ≤ 256 ^ n := by
    have h3 := Nat.pow_le_pow_right (n := 256) (by omega) this
    rw [show (256 : Int) = ((256 : Nat) : Int) from rfl, ← Int.natCast_pow, ← Int.natCast_pow]
    exact Int.ofNat_le.2 h3
  unfold numAt; omega
theorem numAt_two {l : List UInt8} {p : Nat} (h : p + 2 ≤ l.length) : numAt l p 2 = word l p := by
  rw [numAt_succ (by omega), numAt_succ (by omega), numAt_zero]; unfold word; simp
theorem numAt_one {l : List UInt8} {p : Nat} (h : p + 1 ≤ l.length) : numAt l p 1 = byt l p := by
  rw [numAt_succ (by omega), numAt_zero]; simp

end Go.Abs
