/- What the document says, of rows of bytes and numbers alone. -/
import Derived.Test.YtmlenlfhciapfaaFix
set_option autoImplicit false
set_option linter.unusedVariables false
namespace Go.Abs

/-- The sum of all words. -/
def wsum : List UInt8 → Int
  | [] => 0
  | [a] => (a.toNat : Int) * 256
  | a :: b :: r => (a.toNat : Int) * 256 + b.toNat + wsum r

theorem wsum_range : ∀ l : List UInt8, 0 ≤ wsum l ∧ wsum l ≤ 65535 * (l.length : Int)
  | [] => by simp [wsum]
  | [a] => by have := a.toNat_lt; simp [wsum]; omega
  | a :: b :: r => by
    have h1 := a.toNat_lt
    have h2 := b.toNat_lt
    have := wsum_range r
    simp [wsum]; omega

theorem byt_cons0 (a : UInt8) (l : List UInt8) : byt (a :: l) 0 = a.toNat := rfl
theorem byt_cons (a : UInt8) (l : List UInt8) (i : Nat) : byt (a :: l) (i + 1) = byt l i := by simp [byt, List.getD]
theorem byt_ge {l : List UInt8} {i : Nat} (h : l.length ≤ i) : byt l i = 0 := by simp [byt, List.getD, List.getElem?_eq_none h]

theorem wsum_step {l : List UInt8} {i : Nat} (h : i < l.length) : wsum (l.drop i) = word l i + wsum (l.drop (i + 2)) := by
  rw [List.drop_eq_getElem_cons h]
  have e1 : byt l i = (l[i]).toNat := by simp [byt, List.getD, h]
  by_cases h2 : i + 1 < l.length
  · rw [List.drop_eq_getElem_cons h2]
    have e2 : byt l (i + 1) = (l[i + 1]).toNat := by simp [byt, List.getD, h2]
    simp [wsum, word, e1, e2]
  · rw [List.drop_of_length_le (show l.length ≤ i + 1 by omega), List.drop_of_length_le (show l.length ≤ i + 2 by omega)]
    simp [wsum, word, e1, byt_ge (show l.length ≤ i + 1 by omega)]

/-- The sum of the words, begun with a number, folded. -/
def sumI (l : List UInt8) (s : Int) : Int := foldI (s + wsum l)
/-- The checksum. -/
def chkI (l : List UInt8) : Int := 65535 - sumI l 0
/-- A checksum with a word of it another one. -/
def updI (o f t : Int) : Int := 65535 - foldI ((65535 - o) + (65535 - f) + t)
/-- A checksum, changed word by word. -/
def chgI : Int → List UInt8 → List UInt8 → Int
  | o, a :: b :: r, c :: d :: s => chgI (updI o ((a.toNat : Int) * 256 + b.toNat) ((c.toNat : Int) * 256 + d.toNat)) r s
  | o, _, _ => o
def changeI (o : Int) (f t : List UInt8) : Int := if f.length = t.length ∧ f.length % 2 = 0 then chgI o f t else o

theorem updI_range (o f t : Int) : 0 ≤ updI o f t ∧ updI o f t < 65536 := by
  have := foldI_range ((65535 - o) + (65535 - f) + t)
  unfold updI; omega
theorem sumI_range (l : List UInt8) (s : Int) : 0 ≤ sumI l s ∧ sumI l s < 65536 := foldI_range _
theorem chkI_range (l : List UInt8) : 0 ≤ chkI l ∧ chkI l < 65536 := by have := sumI_range l 0; unfold chkI; omega

theorem chgI_step {o : Int} {f t : List UInt8} {i : Nat} (h1 : i + 1 < f.length) (h2 : i + 1 < t.length) : chgI o (f.drop i) (t.drop i) = chgI (updI o (word f i) (word t i)) (f.drop (i + 2)) (t.drop (i + 2)) := by
  rw [List.drop_eq_getElem_cons (show i < f.length by omega), List.drop_eq_getElem_cons h1, List.drop_eq_getElem_cons (show i < t.length by omega), List.drop_eq_getElem_cons h2]
  simp [chgI, word, byt, List.getD, h1, h2, show i < f.length by omega, show i < t.length by omega]
theorem chgI_range : ∀ (f t : List UInt8) (o : Int), 0 ≤ o ∧ o < 65536 → 0 ≤ chgI o f t ∧ chgI o f t < 65536
  | a :: b :: r, c :: d :: s, o, _ => by simp only [chgI]; exact chgI_range r s _ (updI_range _ _ _)
  | [], _, o, h => by simpa [chgI] using h
  | [_], _, o, h => by simpa [chgI] using h
  | _ :: _ :: _, [], o, h => by simpa [chgI] using h
  | _ :: _ :: _, [_], o, h => by simpa [chgI] using h
theorem changeI_range {o : Int} (f t : List UInt8) (h : 0 ≤ o ∧ o < 65536) : 0 ≤ changeI o f t ∧ changeI o f t < 65536 := by
  unfold changeI
  split
  · exact chgI_range f t o h
  · exact h

theorem or16w {a b : Int} (ha : 0 ≤ a ∧ a < 256) (hb : 0 ≤ b ∧ b < 256) : abits .u16 (· ||| ·) (IntKind.u16.wrap (IntKind.u16.wrap a * 256)) (IntKind.u16.wrap b) = a * 256 + b := by
  rw [wrapU16 (n := a) (by omega), wrapU16 (by omega), wrapU16 (by omega)]
  obtain ⟨x, rfl⟩ := Int.eq_ofNat_of_zero_le ha.1
  obtain ⟨y, rfl⟩ := Int.eq_ofNat_of_zero_le hb.1
  have e1 : ((x : Int) * 256) = ((x * 256 : Nat) : Int) := by omega
  rw [e1]
  show IntKind.u16.wrap ((BitVec.ofInt 16 ((x * 256 : Nat) : Int) ||| BitVec.ofInt 16 (y : Int)).toNat : Int) = _
  rw [BitVec.toNat_or, ofIntNat 16 _ (by omega), ofIntNat 16 _ (by omega)]
  have e2 : x * 256 ||| y = x * 256 + y := by
    have := Nat.two_pow_add_eq_or_of_lt (i := 8) (b := y) (by omega) x
    rw [show x * 256 = 2 ^ 8 * x by omega]
    exact this.symm
  rw [e2, wrapU16 (by omega)]
  omega

/-! ### Laws of sums -/

theorem wsum_append : ∀ (a b : List UInt8), a.length % 2 = 0 → wsum (a ++ b) = wsum a + wsum b
  | [], b, _ => by simp [wsum]
  | [_], b, h => by simp at h
  | x :: y :: r, b, h => by
    have := wsum_append r b (by simp at h; omega)
    simp [wsum, this]; omega

theorem foldI_add {x y : Int} (hx : 0 ≤ x) (hy : 0 ≤ y) : foldI (foldI x + y) = foldI (x + y) := by
  unfold foldI
  by_cases h0 : x = 0
  · subst h0; simp
  · rw [if_neg h0]
    have h1 : (x - 1) % 65535 + 1 + y ≠ 0 := by omega
    have h2 : x + y ≠ 0 := by omega
    rw [if_neg h1, if_neg h2]; omega

theorem sumI_append {a b : List UInt8} {s : Int} (ha : a.length % 2 = 0) (hs : 0 ≤ s) : sumI (a ++ b) s = sumI b (sumI a s) := by
  have h1 := wsum_range a
  have h2 := wsum_range b
  unfold sumI
  rw [wsum_append a b ha, foldI_add (by omega) h2.1]
  congr 1; omega

theorem bOk_row {h : AHeap} {k n r : Nat} {e : Bool} {vs : List AV} {md : Md} {par : Option Nat} {l : List UInt8} (hk : h[k]? = some (.cells vs 1 md par)) (hv : vs = bys l) (hn : n = l.length) :
    bOk h (.sl (some (k, 0)) n r e) = true ∧ bOf h (.sl (some (k, 0)) n r e) = l := by
  subst hv hn
  unfold bOk rowOk bOf rowOf
  simp only [hk]
  simp [List.take_of_length_le]

/-- A part of a row. -/
theorem bOk_part {h : AHeap} {k o n r : Nat} {e : Bool} {vs : List AV} {md : Md} {par : Option Nat} {l : List UInt8} (hk : h[k]? = some (.cells vs 1 md par)) (hv : vs = bys l) (hn : o + n ≤ l.length) :
    bOk h (.sl (some (k, o)) n r e) = true ∧ bOf h (.sl (some (k, o)) n r e) = (l.drop o).take n := by
  subst hv
  unfold bOk rowOk bOf rowOf
  simp only [hk]
  simp
  omega

theorem bOk_far {h : AHeap} {k : Nat} {l : List UInt8} {md : Md} {par : Option Nat} (hk : h[k]? = some (.cells (bys l) 1 md par)) : bOk h (slB k l) = true ∧ bOf h (slB k l) = l := by
  unfold bOk rowOk bOf rowOf
  simp only [slB, hk]
  simp [List.take_of_length_le]

theorem tmod2 (n : Nat) : ((n : Int)).tmod 2 = ((n % 2 : Nat) : Int) := rfl

/-! ### A byte that is another one -/

theorem byt_set {l : List UInt8} {k i : Nat} {v : UInt8} (hk : k < l.length) : byt (l.set k v) i = if i = k then (v.toNat : Int) else byt l i := by
  simp only [byt, List.getD, List.getElem?_set]
  by_cases h : i = k
  · subst h; simp [hk]
  · have h' : ¬ k = i := fun e => h e.symm
    simp [h, h']

theorem wsum_set : ∀ (l : List UInt8) (k : Nat) (v : UInt8), k < l.length → wsum (l.set k v) = wsum l + ((v.toNat : Int) - byt l k) * (if k % 2 = 0 then 256 else 1)
  | [], k, v, h => by simp at h
  | [a], k, v, h => by
    have : k = 0 := by simp at h; omega
    subst this
    simp [wsum, byt_cons0]; omega
  | a :: b :: r, 0, v, h => by simp [wsum, byt_cons0]; omega
  | a :: b :: r, 1, v, h => by simp [wsum, byt_cons, byt_cons0]; omega
  | a :: b :: r, k + 2, v, h => by
    have ih := wsum_set r k v (by simp at h; omega)
    simp only [List.set_cons_succ, wsum, ih, byt_cons]
    have : (k + 2) % 2 = k % 2 := by omega
    rw [this]; omega

theorem wsum_snoc0 : ∀ l : List UInt8, wsum (l ++ [0]) = wsum l
  | [] => by simp [wsum]
  | [a] => by simp [wsum]
  | a :: b :: r => by simp [wsum, wsum_snoc0 r]

theorem foldI_mod {n : Int} (h : 0 ≤ n) : foldI n % 65535 = n % 65535 := by
  unfold foldI
  split
  · omega
  · omega

theorem foldI_ne {a b d : Int} (ha : 0 ≤ a) (hb : 0 ≤ b) (h : a = b + d) (h0 : d ≠ 0) (h1 : -65535 < d ∧ d < 65535) : foldI a ≠ foldI b := by
  intro e
  have h2 := foldI_mod ha
  have h3 := foldI_mod hb
  rw [e] at h2
  omega

theorem xor8 {a b : Int} (ha : 0 ≤ a ∧ a < 256) (hb : 0 ≤ b ∧ b < 256) : abits .u8 (· ^^^ ·) a b = ((a.toNat ^^^ b.toNat : Nat) : Int) := by
  obtain ⟨x, rfl⟩ := Int.eq_ofNat_of_zero_le ha.1
  obtain ⟨y, rfl⟩ := Int.eq_ofNat_of_zero_le hb.1
  show IntKind.u8.wrap ((BitVec.ofInt 8 (x : Int) ^^^ BitVec.ofInt 8 (y : Int)).toNat : Int) = _
  rw [BitVec.toNat_xor, ofIntNat 8 x (by omega), ofIntNat 8 y (by omega)]
  have : x ^^^ y < 2 ^ 8 := Nat.xor_lt_two_pow (by omega) (by omega)
  rw [wrapU8 (by omega)]
  simp

theorem flip_bit : ∀ (x : Fin 256) (q : Fin 8), (x.val ^^^ 2 ^ q.val) = x.val + 2 ^ q.val ∨ x.val = (x.val ^^^ 2 ^ q.val) + 2 ^ q.val := by decide +kernel

theorem flip_byte {x : Int} {q : Nat} (hx : 0 ≤ x ∧ x < 256) (hq : q < 8) : ∃ d : Int, abits .u8 (· ^^^ ·) x (IntKind.u8.wrap (1 * 2 ^ min q 8)) = x + d ∧ (0 ≤ x + d ∧ x + d < 256) ∧ (d = 2 ^ q ∨ d = - 2 ^ q) := by
  have h2 : (2 : Int) ^ q = ((2 ^ q : Nat) : Int) := by simp
  have h3 : 2 ^ q ≤ 2 ^ 7 := Nat.pow_le_pow_right (by omega) (by omega)
  have h4 : 0 < 2 ^ q := Nat.pow_pos (by omega)
  have e1 : IntKind.u8.wrap (1 * 2 ^ min q 8) = ((2 ^ q : Nat) : Int) := by
    rw [Nat.min_eq_left (by omega), h2, wrapU8 (by omega)]; omega
  obtain ⟨n, rfl⟩ := Int.eq_ofNat_of_zero_le hx.1
  rw [e1, xor8 hx (by omega)]
  have hn : ((n : Int)).toNat = n := by omega
  have hm : (((2 ^ q : Nat) : Int)).toNat = 2 ^ q := by omega
  rw [hn, hm, h2]
  have hlt : n ^^^ 2 ^ q < 2 ^ 8 := Nat.xor_lt_two_pow (by omega) (by omega)
  rcases flip_bit ⟨n, by omega⟩ ⟨q, hq⟩ with h | h
  · simp only at h
    exact ⟨((2 ^ q : Nat) : Int), by omega, by omega, .inl rfl⟩
  · simp only at h
    exact ⟨-((2 ^ q : Nat) : Int), by omega, by omega, .inr rfl⟩

/-- One bit that is turned changes the sum. -/
theorem sumI_flip {l : List UInt8} {k q : Nat} {d : Int} (hk : k < l.length) (hq : q < 8) (hd : d = 2 ^ q ∨ d = - 2 ^ q) (h : 0 ≤ byt l k + d ∧ byt l k + d < 256) : sumI (l.set k (u8i (byt l k + d))) 0 ≠ sumI l 0 := by
  have h2 : (2 : Int) ^ q = ((2 ^ q : Nat) : Int) := by simp
  have h3 : 2 ^ q ≤ 2 ^ 7 := Nat.pow_le_pow_right (by omega) (by omega)
  have h4 : 0 < 2 ^ q := Nat.pow_pos (by omega)
  have hs := wsum_set l k (u8i (byt l k + d)) hk
  rw [u8i_toNat] at hs
  have e : ((byt l k + d) % 256 - byt l k) = d := by omega
  rw [e] at hs
  have r1 := wsum_range l
  have r2 := wsum_range (l.set k (u8i (byt l k + d)))
  unfold sumI
  rw [Int.zero_add, Int.zero_add]
  refine foldI_ne (d := d * (if k % 2 = 0 then 256 else 1)) r2.1 r1.1 hs ?_ ?_
  · split <;> omega
  · split <;> omega

/-! ### A row with its own checksum; words that change places -/

theorem chk_own {l : List UInt8} (he : l.length % 2 = 0) : sumI (l ++ [u8i ((65535 - sumI l 0).fdiv 256), u8i (65535 - sumI l 0)]) 0 = 65535 := by
  have h := sumI_range l 0
  have hw := wsum_range l
  have e : wsum (l ++ [u8i ((65535 - sumI l 0).fdiv 256), u8i (65535 - sumI l 0)]) = wsum l + (65535 - sumI l 0) := by
    rw [wsum_append _ _ he]
    have h1 := u8i_toNat ((65535 - sumI l 0).fdiv 256)
    have h2 := u8i_toNat (65535 - sumI l 0)
    have h3 : (65535 - sumI l 0).fdiv 256 = (65535 - sumI l 0) / 256 := by
      rw [Int.fdiv_eq_ediv_of_nonneg _ (by omega)]
    rw [h3] at h1 ⊢
    simp only [wsum]
    omega
  have hz : sumI l 0 = foldI (wsum l) := by unfold sumI; rw [Int.zero_add]
  rw [hz] at e h ⊢
  unfold sumI
  rw [Int.zero_add, e]
  have hm := foldI_mod hw.1
  unfold foldI at *
  split at hm <;> split <;> omega

theorem byt_same {l : List UInt8} {i : Nat} : u8i (byt l i) = l.getD i 0 := by unfold byt; exact u8i_byte _

/-- Two words change places. -/
theorem wsum_swap {l : List UInt8} {x y : Nat} (hx : x % 2 = 0) (hy : y % 2 = 0) (hxl : x + 1 < l.length) (hyl : y + 1 < l.length) :
    wsum ((((l.set x (u8i (byt l y))).set (x + 1) (u8i (byt l (y + 1)))).set y (u8i (byt l x))).set (y + 1) (u8i (byt l (x + 1)))) = wsum l := by
  have b1 := byt_range l x
  have b2 := byt_range l (x + 1)
  have b3 := byt_range l y
  have b4 := byt_range l (y + 1)
  have x1 : (x + 1) % 2 ≠ 0 := by omega
  have y1 : (y + 1) % 2 ≠ 0 := by omega
  rw [wsum_set _ _ _ (by simp; omega), wsum_set _ _ _ (by simp; omega), wsum_set _ _ _ (by simp; omega), wsum_set _ _ _ (by omega)]
  rw [if_pos hx, if_pos hy, if_neg x1, if_neg y1]
  have e1 : byt (l.set x (u8i (byt l y))) (x + 1) = byt l (x + 1) := by rw [byt_set (by omega), if_neg (by omega)]
  have e2 : byt ((l.set x (u8i (byt l y))).set (x + 1) (u8i (byt l (y + 1)))) y = byt l y := by
    rw [byt_set (by simp; omega), if_neg (by omega), byt_set (by omega)]
    split
    · rw [u8i_toNat]; omega
    · rfl
  have e3 : byt (((l.set x (u8i (byt l y))).set (x + 1) (u8i (byt l (y + 1)))).set y (u8i (byt l x))) (y + 1) = byt l (y + 1) := by
    rw [byt_set (by simp; omega), if_neg (by omega), byt_set (by simp; omega)]
    split
    · rw [u8i_toNat]; omega
    · rw [byt_set (by omega), if_neg (by omega)]
  rw [e1, e2, e3, u8i_toNat, u8i_toNat, u8i_toNat, u8i_toNat]
  omega

/-! ### A part that is another one -/

/-- Some bytes of a row, put in place one after the other. -/
def patch (b : List UInt8) (k : Nat) (t : List UInt8) (i : Nat) : List UInt8 := b.take k ++ t.take i ++ b.drop (k + i)
theorem patch_zero (b : List UInt8) (k : Nat) (t : List UInt8) : patch b k t 0 = b := by simp [patch]
theorem patch_length {b : List UInt8} {k : Nat} {t : List UInt8} {i : Nat} (h : k + i ≤ b.length) (hi : i ≤ t.length) : (patch b k t i).length = b.length := by simp [patch]; omega
theorem patch_set {b : List UInt8} {k : Nat} {t : List UInt8} {i : Nat} (hi : i < t.length) (h : k + i < b.length) : (patch b k t i).set (k + i) (u8i (byt t i)) = patch b k t (i + 1) := by
  rw [byt_same]
  have h1 : (b.take k ++ t.take i).length = k + i := by simp; omega
  unfold patch
  rw [List.set_append_right _ _ (by omega), h1, Nat.sub_self, List.drop_eq_getElem_cons h, List.set_cons_zero]
  have h2 : t.take (i + 1) = t.take i ++ [t.getD i 0] := by rw [List.take_add_one, List.getElem?_eq_getElem hi, List.getD_eq_getElem?_getD, List.getElem?_eq_getElem hi]; rfl
  rw [h2]
  simp [Nat.add_assoc]

theorem chgI_mod : ∀ (f t : List UInt8) (o : Int), f.length = t.length → f.length % 2 = 0 → 0 ≤ o ∧ o < 65536 → (chgI o f t - (o + wsum f - wsum t)) % 65535 = 0
  | [], [], o, _, _, _ => by simp [chgI, wsum]
  | [_], _, o, _, h, _ => by simp at h
  | [], _ :: _, o, h, _, _ => by simp at h
  | _ :: _ :: _, [], o, h, _, _ => by simp at h
  | _ :: _ :: _, [_], o, h, _, _ => by simp at h
  | a :: b :: r, c :: d :: s, o, h, h2, ho => by
    have ih := chgI_mod r s (updI o ((a.toNat : Int) * 256 + b.toNat) ((c.toNat : Int) * 256 + d.toNat)) (by simpa using h) (by simp at h2; omega) (updI_range _ _ _)
    have ha := a.toNat_lt
    have hb := b.toNat_lt
    have hc := c.toNat_lt
    have hd := d.toNat_lt
    have hm := foldI_mod (n := (65535 - o) + (65535 - ((a.toNat : Int) * 256 + b.toNat)) + ((c.toNat : Int) * 256 + d.toNat)) (by omega)
    simp only [chgI, wsum]
    unfold updI at ih ⊢
    omega

theorem change_law {b t : List UInt8} {k : Nat} (hk : k % 2 = 0) (ht : t.length % 2 = 0) (h : k + t.length ≤ b.length) :
    (changeI (65535 - sumI b 0) ((b.drop k).take t.length) t) % 65535 = (65535 - sumI (patch b k t t.length) 0) % 65535 := by
  have hl : ((b.drop k).take t.length).length = t.length := by simp; omega
  have hb := sumI_range b 0
  have h1 := chgI_mod ((b.drop k).take t.length) t (65535 - sumI b 0) hl (by omega) (by omega)
  have e1 : wsum b = wsum (b.take k) + wsum ((b.drop k).take t.length) + wsum (b.drop (k + t.length)) := by
    conv => lhs; rw [← List.take_append_drop k b, wsum_append _ _ (by simp; omega), ← List.take_append_drop t.length (b.drop k), wsum_append _ _ (by rw [hl]; exact ht), List.drop_drop]
    omega
  have e2 : wsum (patch b k t t.length) = wsum (b.take k) + wsum t + wsum (b.drop (k + t.length)) := by
    unfold patch
    rw [List.append_assoc, wsum_append _ _ (by simp; omega), List.take_length, wsum_append _ _ ht]
    omega
  have w1 := wsum_range b
  have w2 := wsum_range (patch b k t t.length)
  have m1 := foldI_mod w1.1
  have m2 := foldI_mod w2.1
  have z1 : sumI b 0 = foldI (wsum b) := by unfold sumI; rw [Int.zero_add]
  have z2 : sumI (patch b k t t.length) 0 = foldI (wsum (patch b k t t.length)) := by unfold sumI; rw [Int.zero_add]
  unfold changeI
  rw [if_pos ⟨hl, by omega⟩]
  rw [z1] at h1 ⊢
  rw [z2]
  omega

end Go.Abs
