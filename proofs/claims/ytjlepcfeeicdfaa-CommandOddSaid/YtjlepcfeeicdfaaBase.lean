/- Texts that stand together: Num, Row, Loop, Fix, Pure, LawKit. -/
import Derived.Test.YtjlepcfeeicdfaaAbsC
section
/- Numbers: bits, halves, sums that are folded. -/
set_option autoImplicit false
namespace Go.Abs

theorem wrapU16 {n : Int} (h : 0 ≤ n ∧ n < 65536) : IntKind.u16.wrap n = n := by
  simp [IntKind.wrap, IntKind.bits, IntKind.signed]; omega
theorem wrapU64 {n : Int} (h : 0 ≤ n ∧ n < 18446744073709551616) : IntKind.u64.wrap n = n := by
  simp [IntKind.wrap, IntKind.bits, IntKind.signed]; omega
theorem wrapU8 {n : Int} (h : 0 ≤ n ∧ n < 256) : IntKind.u8.wrap n = n := by
  simp [IntKind.wrap, IntKind.bits, IntKind.signed]; omega
theorem wrapI64 {n : Int} (h : -9223372036854775808 ≤ n ∧ n < 9223372036854775808) : IntKind.i64.wrap n = n := by
  simp [IntKind.wrap, IntKind.bits, IntKind.signed]; omega
theorem ofIntNat (w a : Nat) (ha : a < 2 ^ w) : (BitVec.ofInt w (a : Int)).toNat = a := by
  rw [BitVec.ofInt_natCast, BitVec.toNat_ofNat]; exact Nat.mod_eq_of_lt ha

end Go.Abs

end

section
/- Rows of bytes: as lists; how they are read, written, handed on. -/
set_option autoImplicit false
set_option linter.unusedVariables false
set_option linter.unusedSimpArgs false
namespace Go.Abs
variable {P : Program}

def bys (l : List UInt8) : List AV := l.map fun b => .int .u8 b.toNat

@[simp] theorem isCell_int (k : IntKind) (n : Int) : AV.isCell (.int k n) = true := rfl
@[simp] theorem isCell_bool (b : Bool) : AV.isCell (.bool b) = true := rfl
@[simp] theorem isCell_str (b : List UInt8) : AV.isCell (.str b) = true := rfl
@[simp] theorem isCell_sl (a : Option (Nat × Nat)) (n r : Nat) (e : Bool) : AV.isCell (.sl a n r e) = true := rfl
@[simp] theorem beq_int (k : IntKind) (n : Int) : (AV.int k n).beq (.int k n) = true := by simp [AV.beq]
@[simp] theorem beq_str (s : List UInt8) : (AV.str s).beq (.str s) = true := by simp [AV.beq]

theorem bys_cons (b : UInt8) (l : List UInt8) : bys (b :: l) = .int .u8 b.toNat :: bys l := rfl
@[simp] theorem bys_length (l : List UInt8) : (bys l).length = l.length := by simp [bys]
@[simp] theorem bys_take (l : List UInt8) (n : Nat) : (bys l).take n = bys (l.take n) := by simp [bys]
@[simp] theorem bys_drop (l : List UInt8) (n : Nat) : (bys l).drop n = bys (l.drop n) := by simp [bys]
@[simp] theorem bys_append (l m : List UInt8) : bys l ++ bys m = bys (l ++ m) := by simp [bys]
@[simp] theorem bys_get (l : List UInt8) (i : Nat) : (bys l)[i]? = (l[i]?).map fun b => AV.int .u8 b.toNat := by simp [bys]
def byt (l : List UInt8) (i : Nat) : Int := ((l.getD i 0).toNat : Int)
theorem byt_range (l : List UInt8) (i : Nat) : 0 ≤ byt l i ∧ byt l i < 256 := by
  have := (l.getD i 0).toNat_lt
  unfold byt; omega

@[simp] theorem isIntV_byte {l : List UInt8} {i : Nat} : isIntV .u8 ((l[i]?).map fun b => AV.int .u8 b.toNat) = decide (i < l.length) := by
  by_cases h : i < l.length
  · simp [List.getElem?_eq_getElem h, isIntV, h]
  · simp [List.getElem?_eq_none (Nat.le_of_not_lt h), isIntV, h]
@[simp] theorem intV_byte {l : List UInt8} {i : Nat} : intV ((l[i]?).map fun b => AV.int .u8 b.toNat) = byt l i := by
  unfold byt
  by_cases h : i < l.length
  · simp [List.getElem?_eq_getElem h, intV, List.getD]
  · simp [List.getElem?_eq_none (Nat.le_of_not_lt h), intV, List.getD]

@[simp] theorem bys_cells (l : List UInt8) : (bys l).all AV.isCell = true := by simp [bys, AV.isCell]
@[simp] theorem bys_isByte (l : List UInt8) : (bys l).all isByte = true := by simp [bys, isByte]
@[simp] theorem bys_frees : ∀ l : List UInt8, AV.frees (bys l) = true
  | [] => rfl
  | b :: l => by simp [bys_cons, AV.frees, AV.free, bys_frees l]
@[simp] theorem bys_byteD (l : List UInt8) : (bys l).map byteD = l := by
  simp [bys, byteD, Function.comp_def]

def u8i (n : Int) : UInt8 := UInt8.ofNat (n % 256).toNat
theorem u8i_toNat (n : Int) : ((u8i n).toNat : Int) = n % 256 := by
  have : (n % 256).toNat < 256 := by omega
  simp [u8i, Nat.mod_eq_of_lt this]; omega
theorem wrapU8_byte (n : Int) : IntKind.u8.wrap n = ((u8i n).toNat : Int) := by
  rw [u8i_toNat]; simp [IntKind.wrap, IntKind.bits, IntKind.signed]
@[simp] theorem u8i_byte (b : UInt8) : u8i (b.toNat : Int) = b := by
  have := b.toNat_lt
  have h : ((b.toNat : Int) % 256).toNat = b.toNat := by omega
  simp [u8i, h]
@[simp] theorem putCells_len (xs vs : List AV) (o : Nat) : (putCells vs o xs).length = vs.length := putCells_length xs vs o

theorem putCells_byte (l : List UInt8) (o : Nat) (n : Int) : putCells (bys l) o [.int .u8 (IntKind.u8.wrap n)] = bys (l.set o (u8i n)) := by
  simp [putCells, bys, List.map_set, wrapU8_byte]
@[simp] theorem zrep_byte (n : Nat) : zrep n [AV.int .u8 0] = bys (List.replicate n 0) := by
  simp [zrep, bys]


def rowOf (h : AHeap) (a : AV) : List AV := match a with
  | .sl (some (i, o)) n _ _ => match h[i]? with
    | some (.cells vs esz _ _) => (vs.drop o).take (n * esz)
    | _ => []
  | _ => []
def rowOk (h : AHeap) (a : AV) (esz0 : Nat) : Bool := match a with
  | .sl none n c _ => decide (n = 0) && decide (c = 0)
  | .sl (some (i, o)) n _ _ => match h[i]? with
    | some (.cells vs esz _ _) => decide (esz = esz0) && decide (o + n * esz ≤ vs.length)
    | _ => false
  | _ => false

def isByteR : AV → Bool
  | .int .u8 n => decide (0 ≤ n ∧ n < 256)
  | _ => false

@[simp] theorem bys_isByteR (l : List UInt8) : (bys l).all isByteR = true := by
  simp only [bys, List.all_map, List.all_eq_true, Function.comp]
  intro b _
  have := b.toNat_lt
  simp [isByteR]; omega

def bOk (h : AHeap) (a : AV) : Bool := rowOk h a 1 && (rowOf h a).all isByteR
def bOf (h : AHeap) (a : AV) : List UInt8 := (rowOf h a).map byteD
def nOf : AV → Nat
  | .sl _ n _ _ => n
  | _ => 0

@[simp] theorem nOf_sl (a : Option (Nat × Nat)) (n r : Nat) (e : Bool) : nOf (.sl a n r e) = n := rfl

theorem bytes_of {l : List AV} (h : l.all isByteR = true) : l = bys (l.map byteD) := by
  induction l with
  | nil => rfl
  | cons a l ih =>
    simp only [List.all_cons, Bool.and_eq_true] at h
    rw [List.map_cons, bys_cons, ← ih h.2]
    congr 1
    have h1 := h.1
    unfold isByteR at h1
    split at h1
    · rename_i n
      simp only [decide_eq_true_eq] at h1
      simp [byteD, Nat.mod_eq_of_lt (show n.toNat < 256 by omega)]
      omega
    · simp at h1

abbrev slB (k : Nat) (l : List UInt8) : AV := .sl (some (k, 0)) l.length 0 false
abbrev farB (l : List UInt8) : ABlk := .cells (bys l) 1 .far none
abbrev ownB (l : List UInt8) : ABlk := .cells (bys l) 1 .own none

theorem bOk_canon {h : AHeap} {a : AV} (hb : bOk h a = true) (n : Nat) : Canon h n a (slB n (bOf h a)) [farB (bOf h a)] := by
  unfold bOk at hb
  simp only [Bool.and_eq_true] at hb
  obtain ⟨h1, h2⟩ := hb
  have h3 := bytes_of h2
  unfold rowOk at h1
  split at h1
  · rename_i k c e
    simp only [Bool.and_eq_true, decide_eq_true_eq] at h1
    obtain ⟨rfl, rfl⟩ := h1
    exact .nil n e 1
  · rename_i i o k c e
    split at h1
    · rename_i vs esz md par hi
      simp only [Bool.and_eq_true, decide_eq_true_eq] at h1
      obtain ⟨rfl, h1⟩ := h1
      have e1 : rowOf h (.sl (some (i, o)) k c e) = (vs.drop o).take (k * 1) := by simp [rowOf, hi]
      rw [e1] at h3
      have e2 : bOf h (.sl (some (i, o)) k c e) = ((vs.drop o).take (k * 1)).map byteD := by rw [bOf, e1]
      rw [e2]
      have e3 : (((vs.drop o).take (k * 1)).map byteD).length = k := by simp; omega
      unfold slB farB
      rw [e3, ← h3]
      exact .row n i o k c e vs 1 md par hi h1 (by rw [h3]; exact bys_frees _)
    · simp at h1
  · simp at h1

theorem bOk_len {h : AHeap} {a : AV} (hb : bOk h a = true) : (bOf h a).length = nOf a := by
  unfold bOk rowOk at hb
  simp only [Bool.and_eq_true] at hb
  obtain ⟨h1, h2⟩ := hb
  split at h1
  · simp only [Bool.and_eq_true, decide_eq_true_eq] at h1
    simp [bOf, rowOf, nOf, h1]
  · split at h1
    · rename_i vs esz md par hi
      simp only [Bool.and_eq_true, decide_eq_true_eq] at h1
      obtain ⟨rfl, h1⟩ := h1
      simp [bOf, rowOf, hi, nOf]
      omega
    · simp at h1
  · simp at h1

theorem denB {h1 : AHeap} {n0 m k n : Nat} {vs : List AV} {l : List UInt8} {par : Option Nat} (hk : n0 ≤ k) (hb : h1[k]? = some (.cells vs 1 .own par)) (hv : vs = bys l) (hn : n = l.length) : Den h1 n0 m [some k] (.sl (some (k, 0)) n 0 false) (slB m l) [ownB l] := by
  subst hv hn
  have := Den.row (h1 := h1) (n0 := n0) m k 0 l.length 0 false (bys l) 1 par hk (by omega) hb ⟨by simp [capOf], by simp [capOf]⟩ (fun h => ⟨by have := List.eq_nil_of_length_eq_zero h; subst this; rfl, rfl⟩) (by simp)
  have e : ((bys l).drop 0).take (l.length * 1) = bys l := by rw [List.drop_zero, Nat.mul_one, bys_take, List.take_length]
  rw [e] at this
  exact this
theorem denB0 {h1 : AHeap} {n0 m : Nat} {e : Bool} : Den h1 n0 m [none] (.sl none 0 0 e) (slB m []) [ownB []] := .nil m e 1

end Go.Abs

end

section
/- Loops that count; numbers made of bytes. -/
set_option autoImplicit false
set_option linter.unusedVariables false
namespace Go.Abs
variable {P : Program}

theorem loop_up {body : List AV → AHeap → Option (AEx × List AV × AHeap)} (st : Nat → List AV × AHeap) {n : Nat} {e : AEx} {vs : List AV} {h : AHeap} (he : e ≠ .norm)
    (step : ∀ i, i < n → body (st i).1 (st i).2 = some (.norm, (st (i + 1)).1, (st (i + 1)).2)) (stop : body (st n).1 (st n).2 = some (e, vs, h)) : ∃ j, loopG body j (st 0).1 (st 0).2 = some (e, vs, h) := by
  have key : ∀ k i, i + k = n → ∃ j, loopG body j (st i).1 (st i).2 = some (e, vs, h) := by
    intro k
    induction k with
    | zero =>
      intro i hi
      have : i = n := by omega
      subst this
      refine ⟨1, ?_⟩
      simp only [loopG, stop, Option.bind_some]
    | succ k ih =>
      intro i hi
      obtain ⟨j, hj⟩ := ih (i + 1) (by omega)
      refine ⟨j + 1, ?_⟩
      simp only [loopG, step i (by omega), Option.bind_some]
      exact hj
  exact key n 0 (by omega)


def beN (l : List UInt8) : Int := l.foldl (fun x b => x * 256 + (b.toNat : Int)) 0
theorem beN_snoc (l : List UInt8) (b : UInt8) : beN (l ++ [b]) = beN l * 256 + b.toNat := by simp [beN]
theorem beN_range (l : List UInt8) : 0 ≤ beN l ∧ beN l < 256 ^ l.length := by
  suffices h : ∀ k, ∀ l : List UInt8, l.length = k → 0 ≤ beN l ∧ beN l < 256 ^ k from h _ l rfl
  intro k
  induction k with
  | zero => intro l hl; have : l = [] := List.eq_nil_of_length_eq_zero hl; subst this; simp [beN]
  | succ k ih =>
    intro l hl
    obtain ⟨m, b, rfl⟩ : ∃ m b, l = m ++ [b] := ⟨l.dropLast, l.getLast (by rintro rfl; simp at hl), (List.dropLast_concat_getLast _).symm⟩
    rw [beN_snoc]
    have := ih m (by simpa using hl)
    have hb := b.toNat_lt
    rw [Int.pow_succ]
    constructor
    · omega
    · omega
theorem beN_take {l : List UInt8} {i : Nat} (h : i < l.length) : beN (l.take (i + 1)) = beN (l.take i) * 256 + byt l i := by
  have : l.take (i + 1) = l.take i ++ [l[i]] := by rw [List.take_add_one, List.getElem?_eq_getElem h]; rfl
  rw [this, beN_snoc]
  simp [byt, List.getD, h]

theorem or64w {a b : Int} (ha : 0 ≤ a ∧ a < 72057594037927936) (hb : 0 ≤ b ∧ b < 256) : abits .u64 (· ||| ·) (IntKind.u64.wrap (a * 256)) (IntKind.u64.wrap b) = a * 256 + b := by
  rw [wrapU64 (by omega), wrapU64 (by omega)]
  obtain ⟨x, rfl⟩ := Int.eq_ofNat_of_zero_le ha.1
  obtain ⟨y, rfl⟩ := Int.eq_ofNat_of_zero_le hb.1
  have e1 : ((x : Int) * 256) = ((x * 256 : Nat) : Int) := by omega
  rw [e1]
  show IntKind.u64.wrap ((BitVec.ofInt 64 ((x * 256 : Nat) : Int) ||| BitVec.ofInt 64 (y : Int)).toNat : Int) = _
  rw [BitVec.toNat_or, ofIntNat 64 _ (by omega), ofIntNat 64 _ (by omega)]
  have e2 : x * 256 ||| y = x * 256 + y := by
    have := Nat.two_pow_add_eq_or_of_lt (i := 8) (b := y) (by omega) x
    rw [show x * 256 = 2 ^ 8 * x by omega]
    exact this.symm
  rw [e2, wrapU64 (by omega)]
  omega

def word (l : List UInt8) (i : Nat) : Int := byt l i * 256 + byt l (i + 1)
theorem word_range (l : List UInt8) (i : Nat) : 0 ≤ word l i ∧ word l i < 65536 := by
  have h1 := byt_range l i
  have h2 := byt_range l (i + 1)
  unfold word; omega

theorem byt_drop (l : List UInt8) (p i : Nat) : byt (l.drop p) i = byt l (p + i) := by simp [byt, List.getD]
def numAt (l : List UInt8) (p n : Nat) : Int := beN ((l.drop p).take n)
theorem numAt_succ {l : List UInt8} {p n : Nat} (h : p + n < l.length) : numAt l p (n + 1) = numAt l p n * 256 + byt l (p + n) := by
  unfold numAt
  rw [beN_take (by simp; omega), byt_drop]
theorem numAt_zero (l : List UInt8) (p : Nat) : numAt l p 0 = 0 := by simp [numAt, beN]
theorem numAt_range (l : List UInt8) (p n : Nat) : 0 ≤ numAt l p n ∧ numAt l p n < 256 ^ n := by
  have h := beN_range ((l.drop p).take n)
  have : ((l.drop p).take n).length ≤ n := by rw [List.length_take]; exact Nat.min_le_left _ _
  have h2 : (256 : Int) ^ ((l.drop p).take n).length ≤ 256 ^ n := by
    have h3 := Nat.pow_le_pow_right (n := 256) (by omega) this
    rw [show (256 : Int) = ((256 : Nat) : Int) from rfl, ← Int.natCast_pow, ← Int.natCast_pow]
    exact Int.ofNat_le.2 h3
  unfold numAt; omega
end Go.Abs

end

section
/- A loop, a call, at one state alone; what a function does at given arguments. -/
set_option autoImplicit false
set_option linter.unusedVariables false
namespace Go.Abs
variable {P : Program}

def Runs (P : Program) (f : FuncId) (args : List AV) (h : AHeap) (v : AV) (h' : AHeap) : Prop := ∃ E, SoundE P f E ∧ E.get args h = some (v, h')

theorem canonR_sound {f : FuncId} {g : GEnt}
    (hg : ∀ args h v h', g args h = some (true, v, h') → ∃ args1 h1, Canons h 0 args args1 h1 ∧ ∃ v1 h1', Runs P f args1 h1 v1 h1' ∧ ∃ ks new, h' = h ++ new ∧ Den h1' h1.length h.length ks v1 v new ∧ KsOk ks) : SoundE P f (entF g) :=
  canonF_sound fun args h v h' hx => by
    obtain ⟨args1, h1, hc, v1, h1', ⟨E, hE, hr⟩, k⟩ := hg _ _ _ _ hx
    exact ⟨E, hE, args1, h1, hc, v1, h1', hr, k⟩

theorem Runs.of {t : Tbl} (ht : ∀ f E, t.find f = some E → SoundE P f E) {F n : Nat} {ls : List (Nat × LoopF)} {f : FuncId} (hls : ∀ b ∈ loopsOf (bodyOf P f), ∀ s, lsOf ls (firstReg b) = some s → SoundS P s b) {args : List AV} {h : AHeap} {v : AV} {h' : AHeap}
    (hx : abody P (deepC P t F n) (mixLS ls (autoLS P (deepC P t F n) F 4 (bodyOf P f))) f args h (fun v h => some (v, h)) = some (v, h')) : Runs P f args h v h' :=
  ⟨runE P t F n ls f, runE_sound ht F n hls, hx⟩

theorem Runs.val {t : Tbl} (ht : ∀ f E, t.find f = some E → SoundE P f E) {F n : Nat} {ls : List (Nat × LoopF)} {f : FuncId} (hls : ∀ b ∈ loopsOf (bodyOf P f), ∀ s, lsOf ls (firstReg b) = some s → SoundS P s b) {args : List AV} {h : AHeap} {v : AV}
    (hx : abody P (deepC P t F n) (mixLS ls (autoLS P (deepC P t F n) F 4 (bodyOf P f))) f args h (fun v _ => some v) = some v) : ∃ h', Runs P f args h v h' := by
  obtain ⟨h1, h2⟩ := get_of_val hx
  exact ⟨h1, _, runE_sound ht F n hls, h2⟩

theorem Runs.val0 {t : Tbl} (ht : ∀ f E, t.find f = some E → SoundE P f E) {F n : Nat} {f : FuncId} {args : List AV} {h : AHeap} {v : AV}
    (hx : abody P (deepC P t F n) (mixLS [] (autoLS P (deepC P t F n) F 4 (bodyOf P f))) f args h (fun v _ => some v) = some v) : ∃ h', Runs P f args h v h' :=
  Runs.val ht (fun b _ s hs => by simp [lsOf] at hs) hx

theorem canonV_sound {f : FuncId} {g : GEnt}
    (hg : ∀ args h v h', g args h = some (true, v, h') → h' = h ∧ v.free = true ∧ ∃ args1 h1, Canons h 0 args args1 h1 ∧ ∃ h1', Runs P f args1 h1 v h1') : SoundE P f (entF g) :=
  canonR_sound fun args h v h' hx => by
    obtain ⟨rfl, hf, args1, h1, hc, h1', hr⟩ := hg _ _ _ _ hx
    exact ⟨args1, h1, hc, v, h1', hr, [], [], by simp, .flat _ _ hf, ksOk0⟩


theorem Runs.ofT {t : Tbl} (ht : ∀ f E, t.find f = some E → SoundE P f E) {F n : Nat} {pr : List (Nat × AV)} {ls : List (Nat × LoopF)} {f : FuncId} (hls : ∀ b ∈ loopsOf (bodyOf P f), ∀ s, lsOf ls (firstReg b) = some s → SoundS P s b) {args : List AV} {h : AHeap} {v : AV} {h' : AHeap}
    (hx : qrun P t F n pr ls f args h (fun v h => some (v, h)) = some (v, h')) : Runs P f args h v h' := by
  obtain ⟨v1, h1, e, hE⟩ := qrun_sound ht hls hx
  simp only [Option.some.injEq, Prod.mk.injEq] at e
  obtain ⟨rfl, rfl⟩ := e
  exact hE
theorem Runs.ofT0 {t : Tbl} (ht : ∀ f E, t.find f = some E → SoundE P f E) {F n : Nat} {pr : List (Nat × AV)} {f : FuncId} {args : List AV} {h : AHeap} {v : AV} {h' : AHeap}
    (hx : qrun P t F n pr [] f args h (fun v h => some (v, h)) = some (v, h')) : Runs P f args h v h' := Runs.ofT ht (fun b _ s hs => by simp [lsOf] at hs) hx
theorem Runs.valT {t : Tbl} (ht : ∀ f E, t.find f = some E → SoundE P f E) {F n : Nat} {pr : List (Nat × AV)} {ls : List (Nat × LoopF)} {f : FuncId} (hls : ∀ b ∈ loopsOf (bodyOf P f), ∀ s, lsOf ls (firstReg b) = some s → SoundS P s b) {args : List AV} {h : AHeap} {v : AV}
    (hx : qrun P t F n pr ls f args h (fun v _ => some v) = some v) : ∃ h', Runs P f args h v h' := by
  obtain ⟨v1, h1, e, hE⟩ := qrun_sound ht hls hx
  simp only [Option.some.injEq] at e
  subst e
  exact ⟨_, hE⟩
theorem Runs.valT0 {t : Tbl} (ht : ∀ f E, t.find f = some E → SoundE P f E) {F n : Nat} {pr : List (Nat × AV)} {f : FuncId} {args : List AV} {h : AHeap} {v : AV}
    (hx : qrun P t F n pr [] f args h (fun v _ => some v) = some v) : ∃ h', Runs P f args h v h' := Runs.valT ht (fun b _ s hs => by simp [lsOf] at hs) hx

theorem loop_T {t : Tbl} {F n : Nat} {LS : LoopTT} {c : Code} {m : List Bool} {n0 : Nat} (st : Nat → List AV × AHeap) {N : Nat} {e : AEx} {vs : List AV} {h : AHeap} (he : e ≠ .norm)
    (step : ∀ i, i < N → ∃ pr vs1 h1, qround P t F n pr LS c m (st i).1 (st i).2 = some (.norm, vs1, h1) ∧ Gc n0 vs1 h1 (st (i + 1)).1 (st (i + 1)).2)
    (stop : ∃ pr vs1 h1, qround P t F n pr LS c m (st N).1 (st N).2 = some (e, vs1, h1) ∧ Gc n0 vs1 h1 vs h) : ∃ k, GReach (roundG P (deepT P t F n) (lsT LS) c m) n0 k (st 0).1 (st 0).2 e vs h :=
  greach_up st he (fun i hi => by obtain ⟨pr, vs1, h1, h2, h3⟩ := step i hi; exact ⟨vs1, h1, qround_le h2, h3⟩) (by obtain ⟨pr, vs1, h1, h2, h3⟩ := stop; exact ⟨vs1, h1, qround_le h2, h3⟩)

noncomputable def fixC (q : Prop) (m : List Bool) (vs0 : List AV) (h0 : AHeap) (e : AEx) (vs1 : List AV) (h1 : AHeap) : LoopF := loopF m fun vs h => some (cdec (q ∧ vs = vs0 ∧ h = h0), e, vs1, h1)

theorem fixC_T {t : Tbl} (ht : ∀ f E, t.find f = some E → SoundE P f E) {F n : Nat} {LS : LoopTT} {c : Code} (hL : LoopsOk P (lsT LS) c) {q : Prop} {m : List Bool} {vs0 vs1 : List AV} {h0 h1 : AHeap} {e : AEx}
    {n0 : Nat} (H : q → ∃ k, GReach (roundG P (deepT P t F n) (lsT LS) c m) n0 k vs0 h0 e vs1 h1) (hn : h0.length = n0 := by rfl) : SoundS P (fixC q m vs0 h0 e vs1 h1) c := by
  subst hn
  refine @loopGc_sound P _ (deepT_sound ht F n) _ c hL m _ fun vs h e' vs' h' hg => ?_
  simp only [Option.some.injEq, Prod.mk.injEq] at hg
  obtain ⟨hc, rfl, rfl, rfl⟩ := hg
  rw [cdec_true] at hc
  obtain ⟨hq, rfl, rfl⟩ := hc
  exact H hq

theorem fixP_T {t : Tbl} (ht : ∀ f E, t.find f = some E → SoundE P f E) {F n : Nat} {LS : LoopTT} {c : Code} (hL : LoopsOk P (lsT LS) c) {q : Prop} {m : List Bool} {vs0 vs1 : List AV} {h0 h1 : AHeap} {e : AEx}
    {n0 : Nat} (H : q → ∃ vs2 h2, Pre n0 vs0 h0 vs2 h2 ∧ ∃ k, GReach (roundG P (deepT P t F n) (lsT LS) c m) n0 k vs2 h2 e vs1 h1) (hn : h0.length = n0 := by rfl) : SoundS P (fixC q m vs0 h0 e vs1 h1) c := by
  subst hn
  refine @loopGp_sound P _ (deepT_sound ht F n) _ c hL m _ fun vs h e' vs' h' hg => ?_
  simp only [Option.some.injEq, Prod.mk.injEq] at hg
  obtain ⟨hc, rfl, rfl, rfl⟩ := hg
  rw [cdec_true] at hc
  obtain ⟨hq, rfl, rfl⟩ := hc
  exact H hq

theorem only {c : Code} {k : Nat} {s : LoopF} (h : loopsOf c = [loopIn c 0]) (hs : SoundS P s (loopIn c 0)) : ∀ b ∈ loopsOf c, ∀ s', lsOf [(k, s)] (firstReg b) = some s' → SoundS P s' b := by
  intro b hb s' hs'
  rw [h] at hb
  simp only [List.mem_singleton] at hb
  subst hb
  simp only [lsOf] at hs'
  split at hs'
  · cases hs'; exact hs
  · simp at hs'

theorem both {c : Code} {k k2 : Nat} {s s2 : LoopF} (h : loopsOf c = [loopIn c 0, loopIn c 1]) (h1 : firstReg (loopIn c 0) = k) (h2 : firstReg (loopIn c 1) = k2) (hk : k ≠ k2) (hs : SoundS P s (loopIn c 0)) (hs2 : SoundS P s2 (loopIn c 1)) :
    ∀ b ∈ loopsOf c, ∀ s', lsOf [(k, s), (k2, s2)] (firstReg b) = some s' → SoundS P s' b := by
  intro b hb s' hs'
  rw [h] at hb
  simp only [List.mem_cons, List.not_mem_nil, or_false] at hb
  rcases hb with rfl | rfl
  · simp only [lsOf, h1, if_true] at hs'
    cases hs'; exact hs
  · simp only [lsOf, h2, if_neg hk, if_true] at hs'
    cases hs'; exact hs2

def toldAt : List (Nat × AV × AHeap) → Nat → Option (AV × AHeap)
  | [], _ => none
  | (k, x) :: l, n => bif k.beq n then some x else toldAt l n
end Go.Abs

end

section
/- What the document says, of rows of bytes and numbers alone. -/
set_option autoImplicit false
set_option linter.unusedVariables false
namespace Go.Abs


theorem bOk_row {h : AHeap} {k n r : Nat} {e : Bool} {vs : List AV} {md : Md} {par : Option Nat} {l : List UInt8} (hk : h[k]? = some (.cells vs 1 md par)) (hv : vs = bys l) (hn : n = l.length) :
    bOk h (.sl (some (k, 0)) n r e) = true ∧ bOf h (.sl (some (k, 0)) n r e) = l := by
  subst hv hn
  unfold bOk rowOk bOf rowOf
  simp only [hk]
  simp [List.take_of_length_le]

theorem bOk_part {h : AHeap} {k o n r : Nat} {e : Bool} {vs : List AV} {md : Md} {par : Option Nat} {l : List UInt8} (hk : h[k]? = some (.cells vs 1 md par)) (hv : vs = bys l) (hn : o + n ≤ l.length) :
    bOk h (.sl (some (k, o)) n r e) = true ∧ bOf h (.sl (some (k, o)) n r e) = (l.drop o).take n := by
  subst hv
  unfold bOk rowOk bOf rowOf
  simp only [hk]
  simp
  omega

theorem bOk_far {h : AHeap} {k : Nat} {l : List UInt8} {md : Md} {par : Option Nat} (hk : h[k]? = some (.cells (bys l) 1 md par)) : bOk h (slB k l) = true ∧ bOf h (slB k l) = l := by
  unfold bOk rowOk bOf rowOf
  simp only [slB, hk]
  simp [List.take_of_length_le]




end Go.Abs

end

section
/- A law's call: arguments by type. -/
set_option autoImplicit false
set_option linter.unusedVariables false
namespace Go.Abs
open Go.ChangeShapes Go.RowKit Go.WideShapes
variable {H : Type} {enc : TypeId × Value → H} {P : Program}

theorem byte_wf {z : Int} (h : (Lit.int .u8 z).wf = true) : 0 ≤ z ∧ z < 256 := by
  simp [Lit.wf, IntKind.min, IntKind.max, IntKind.signed, IntKind.bits] at h; omega
theorem i64_wf {z : Int} (h : (Lit.int .i64 z).wf = true) : -9223372036854775808 ≤ z ∧ z < 9223372036854775808 := by
  simp [Lit.wf, IntKind.min, IntKind.max, IntKind.signed, IntKind.bits] at h; omega

variable {W : World} {σ : Sig} {h : AHeap} {avs : List AV} {vs : List Value}

theorem Args.aInt (A : Args W σ h avs vs) {t : TypeId} {k : IntKind} {v : Value} {d : DataW H} {ps : List MemPlace} (hk : flatK P 10 t = some [.int k]) (hu : P.underlying t = some (.int k))
    (hval : Value.okWide P W .any 0 t v) (hd : DataW.Trod enc P W 0 (fun _ => true) true t v d ps) : ∃ n, (Lit.int k n).wf = true ∧ Args W σ h (avs ++ [.int k n]) (vs ++ [v]) := by
  obtain ⟨l, hl, A'⟩ := A.plain hk hval hd
  cases hl with
  | int _ n hw _ m t =>
  cases t
  rw [hu] at A'
  exact ⟨n, hw, A'⟩

theorem runs_true {f : FuncId} {args : Array Value} (A : Args W σ h avs args.toList) {h' : AHeap} (hr : Runs P f avs h (.bool true) h') : Calls P f args W fun e W' => e = .returned (.bool true) ∧ Below W.heap.size W W' := by
  obtain ⟨E, hE, hx⟩ := hr
  exact calls_true hE hx A.rel A.vrs


inductive Says (e : GEnt) (args : List AV) (h : AHeap) (v : AV) (new : AHeap) : Prop
  | mk (H : e args h = some (true, v, h ++ new)) : Says e args h v new
noncomputable def eSay (e : GEnt) (l : List (Nat × AV × AHeap)) : GEnt := fun args h => match toldAt l h.length with
  | some (v, new) => some (cdec (Says e args h v new), v, h ++ new)
  | none => none
theorem sSay {f : FuncId} {e : GEnt} (h : SoundE P f (entF e)) (l : List (Nat × AV × AHeap)) : SoundE P f (entF (eSay e l)) := by
  refine entF_sound h fun args hp v h' hg => ?_
  unfold eSay at hg
  split at hg
  · simp only [Option.some.injEq, Prod.mk.injEq] at hg
    obtain ⟨hc, rfl, rfl⟩ := hg
    rw [cdec_true] at hc
    obtain ⟨he⟩ := hc
    change eRun e args hp (fun v h => some (v, h)) = _
    unfold eRun; rw [he]; rfl
  · simp at hg

abbrev b8 (n : Int) : AV := .int .u8 n

def idxOf : List AV → Option Nat
  | .sl (some (i, _)) _ _ _ :: _ => some i
  | _ :: .sl (some (i, _)) _ _ _ :: _ => some i
  | _ => none
noncomputable def eRel (R : List AV → AHeap → AV → AHeap → Prop) (l : List (Nat × AV × AHeap)) : GEnt := fun args h => match toldAt l h.length with
  | some (v, new) => some (cdec (R args h v new), v, h ++ new)
  | none => none
theorem relR_sound {f : FuncId} {R : List AV → AHeap → AV → AHeap → Prop}
    (hR : ∀ args h v new, R args h v new → ∃ args1 h1, Canons h 0 args args1 h1 ∧ ∃ v1 h1', Runs P f args1 h1 v1 h1' ∧ ∃ ks, Den h1' h1.length h.length ks v1 v new ∧ KsOk ks) (l : List (Nat × AV × AHeap)) : SoundE P f (entF (eRel R l)) :=
  canonR_sound fun args h v h' hg => by
    unfold eRel at hg
    split at hg
    · simp only [Option.some.injEq, Prod.mk.injEq] at hg
      obtain ⟨hc, rfl, rfl⟩ := hg
      rw [cdec_true] at hc
      obtain ⟨args1, h1, c, v1, h1', hr, ks, hd, hk⟩ := hR _ _ _ _ hc
      exact ⟨args1, h1, c, v1, h1', hr, ks, _, rfl, hd, hk⟩
    · simp at hg

end Go.Abs

end
