/- Rows of bytes: as lists; how they are read, written, handed on. -/
import Derived.Test.YtmlenlfhciapfaaAbsC
set_option autoImplicit false
set_option linter.unusedVariables false
set_option linter.unusedSimpArgs false
namespace Go.Abs
variable {P : Program}

def bys (l : List UInt8) : List AV := l.map fun b => .int .u8 b.toNat

@[simp] theorem isCell_int (k : IntKind) (n : Int) : AV.isCell (.int k n) = true := rfl
@[simp] theorem isCell_bool (b : Bool) : AV.isCell (.bool b) = true := rfl
@[simp] theorem isCell_str (b : List UInt8) : AV.isCell (.str b) = true := rfl
@[simp] theorem isCell_sl (a : Option (Nat × Nat)) (n r : Nat) (e : Bool) : AV.isCell (.sl a n r e) = true := rfl
@[simp] theorem beq_int (k : IntKind) (n : Int) : (AV.int k n).beq (.int k n) = true := by simp [AV.beq]
@[simp] theorem beq_str (s : List UInt8) : (AV.str s).beq (.str s) = true := by simp [AV.beq]

theorem bys_nil : bys [] = [] := rfl
theorem bys_cons (b : UInt8) (l : List UInt8) : bys (b :: l) = .int .u8 b.toNat :: bys l := rfl
@[simp] theorem bys_length (l : List UInt8) : (bys l).length = l.length := by simp [bys]
@[simp] theorem bys_take (l : List UInt8) (n : Nat) : (bys l).take n = bys (l.take n) := by simp [bys]
@[simp] theorem bys_drop (l : List UInt8) (n : Nat) : (bys l).drop n = bys (l.drop n) := by simp [bys]
@[simp] theorem bys_append (l m : List UInt8) : bys l ++ bys m = bys (l ++ m) := by simp [bys]
@[simp] theorem bys_get (l : List UInt8) (i : Nat) : (bys l)[i]? = (l[i]?).map fun b => AV.int .u8 b.toNat := by simp [bys]
theorem bys_inj {l m : List UInt8} (h : bys l = bys m) : l = m := by
  have : ∀ {a b : UInt8}, (AV.int .u8 (a.toNat : Int)) = .int .u8 (b.toNat : Int) → a = b := by
    intro a b h
    simp at h
    exact UInt8.toNat_inj.1 (by exact_mod_cast h)
  induction l generalizing m with
  | nil => cases m <;> simp [bys] at h ⊢
  | cons a l ih =>
    cases m with
    | nil => simp [bys] at h
    | cons b m =>
      simp only [bys_cons, List.cons.injEq] at h
      rw [this h.1, ih h.2]

/-- The byte at a place, as a number. -/
def byt (l : List UInt8) (i : Nat) : Int := ((l.getD i 0).toNat : Int)
theorem byt_range (l : List UInt8) (i : Nat) : 0 ≤ byt l i ∧ byt l i < 256 := by
  have := (l.getD i 0).toNat_lt
  unfold byt; omega

@[simp] theorem isIntV_byte {l : List UInt8} {i : Nat} : isIntV .u8 ((l[i]?).map fun b => AV.int .u8 b.toNat) = decide (i < l.length) := by
  by_cases h : i < l.length
  · simp [List.getElem?_eq_getElem h, isIntV, h]
  · simp [List.getElem?_eq_none (Nat.le_of_not_lt h), isIntV, h]
@[simp] theorem intV_byte {l : List UInt8} {i : Nat} : intV ((l[i]?).map fun b => AV.int .u8 b.toNat) = byt l i := by
  unfold byt
  by_cases h : i < l.length
  · simp [List.getElem?_eq_getElem h, intV, List.getD]
  · simp [List.getElem?_eq_none (Nat.le_of_not_lt h), intV, List.getD]

@[simp] theorem bys_cells (l : List UInt8) : (bys l).all AV.isCell = true := by simp [bys, AV.isCell]
@[simp] theorem bys_isByte (l : List UInt8) : (bys l).all isByte = true := by simp [bys, isByte]
@[simp] theorem bys_frees : ∀ l : List UInt8, AV.frees (bys l) = true
  | [] => rfl
  | b :: l => by simp [bys_cons, AV.frees, AV.free, bys_frees l]
@[simp] theorem bys_byteD (l : List UInt8) : (bys l).map byteD = l := by
  simp [bys, byteD, Function.comp_def]

/-- A number, as a byte. -/
def u8i (n : Int) : UInt8 := UInt8.ofNat (n % 256).toNat
theorem u8i_toNat (n : Int) : ((u8i n).toNat : Int) = n % 256 := by
  have : (n % 256).toNat < 256 := by omega
  simp [u8i, Nat.mod_eq_of_lt this]; omega
theorem wrapU8_byte (n : Int) : IntKind.u8.wrap n = ((u8i n).toNat : Int) := by
  rw [u8i_toNat]; simp [IntKind.wrap, IntKind.bits, IntKind.signed]
@[simp] theorem u8i_byte (b : UInt8) : u8i (b.toNat : Int) = b := by
  have := b.toNat_lt
  have h : ((b.toNat : Int) % 256).toNat = b.toNat := by omega
  simp [u8i, h]
theorem u8i_inj {a b : Int} (ha : 0 ≤ a ∧ a < 256) (hb : 0 ≤ b ∧ b < 256) (h : u8i a = u8i b) : a = b := by
  have h1 := u8i_toNat a
  have h2 := u8i_toNat b
  rw [h] at h1; omega

theorem bys_lit {n : Int} (l : List UInt8) (h : 0 ≤ n ∧ n < 256) : AV.int .u8 n :: bys l = bys (u8i n :: l) := by
  rw [bys_cons, u8i_toNat]
  congr 2; omega
theorem bys_lit1 {n : Int} (h : 0 ≤ n ∧ n < 256) : [AV.int .u8 n] = bys [u8i n] := bys_lit [] h

/-- So many bytes are written in a row. -/
theorem putCells_bytes : ∀ (xs l : List UInt8) (o : Nat), o + xs.length ≤ l.length → putCells (bys l) o (bys xs) = bys (l.take o ++ xs ++ l.drop (o + xs.length))
  | [], l, o, h => by simp [bys_nil, putCells]
  | x :: xs, l, o, h => by
    simp only [List.length_cons] at h
    rw [bys_cons, putCells]
    have e : (bys l).set o (.int .u8 x.toNat) = bys (l.set o x) := by simp [bys, List.map_set]
    rw [e, putCells_bytes xs (l.set o x) (o + 1) (by simp; omega)]
    congr 1
    have hs : l.set o x = l.take o ++ x :: l.drop (o + 1) := by rw [List.set_eq_take_append_cons_drop, if_pos (by omega)]
    have hlen : (l.take o).length = o := by simp; omega
    have h1 : (l.set o x).take (o + 1) = l.take o ++ [x] := by
      rw [hs, List.take_append, hlen, List.take_of_length_le (by omega)]
      simp
    have h2 : (l.set o x).drop (o + 1 + xs.length) = l.drop (o + (xs.length + 1)) := by
      rw [hs, List.drop_append, hlen, List.drop_of_length_le (by omega), show o + 1 + xs.length - o = xs.length + 1 by omega, List.drop_succ_cons, List.drop_drop, List.nil_append]
      congr 1; omega
    rw [h1, h2]
    simp

@[simp] theorem putCells_len (xs vs : List AV) (o : Nat) : (putCells vs o xs).length = vs.length := putCells_length xs vs o

theorem putCells_byte (l : List UInt8) (o : Nat) (n : Int) : putCells (bys l) o [.int .u8 (IntKind.u8.wrap n)] = bys (l.set o (u8i n)) := by
  simp [putCells, bys, List.map_set, wrapU8_byte]
theorem putCells_byte' (l : List UInt8) (o : Nat) (n : Int) (hn : 0 ≤ n ∧ n < 256) : putCells (bys l) o [.int .u8 n] = bys (l.set o (u8i n)) := by
  have : IntKind.u8.wrap n = n := by simp [IntKind.wrap, IntKind.bits, IntKind.signed]; omega
  rw [← putCells_byte, this]

@[simp] theorem zrep_byte (n : Nat) : zrep n [AV.int .u8 0] = bys (List.replicate n 0) := by
  simp [zrep, bys]

/-! ### Rows as arguments -/

/-- The cells of a slice. -/
def rowOf (h : AHeap) (a : AV) : List AV := match a with
  | .sl (some (i, o)) n _ _ => match h[i]? with
    | some (.cells vs esz _ _) => (vs.drop o).take (n * esz)
    | _ => []
  | _ => []
/-- Is it one of so many cells each? -/
def rowOk (h : AHeap) (a : AV) (esz0 : Nat) : Bool := match a with
  | .sl none n c _ => decide (n = 0) && decide (c = 0)
  | .sl (some (i, o)) n _ _ => match h[i]? with
    | some (.cells vs esz _ _) => decide (esz = esz0) && decide (o + n * esz ≤ vs.length)
    | _ => false
  | _ => false

def isByteR : AV → Bool
  | .int .u8 n => decide (0 ≤ n ∧ n < 256)
  | _ => false

@[simp] theorem bys_isByteR (l : List UInt8) : (bys l).all isByteR = true := by
  simp only [bys, List.all_map, List.all_eq_true, Function.comp]
  intro b _
  have := b.toNat_lt
  simp [isByteR]; omega

/-- Is it a row of bytes? which? -/
def bOk (h : AHeap) (a : AV) : Bool := rowOk h a 1 && (rowOf h a).all isByteR
def bOf (h : AHeap) (a : AV) : List UInt8 := (rowOf h a).map byteD
def nOf : AV → Nat
  | .sl _ n _ _ => n
  | _ => 0

@[simp] theorem nOf_sl (a : Option (Nat × Nat)) (n r : Nat) (e : Bool) : nOf (.sl a n r e) = n := rfl

theorem bytes_of {l : List AV} (h : l.all isByteR = true) : l = bys (l.map byteD) := by
  induction l with
  | nil => rfl
  | cons a l ih =>
    simp only [List.all_cons, Bool.and_eq_true] at h
    rw [List.map_cons, bys_cons, ← ih h.2]
    congr 1
    have h1 := h.1
    unfold isByteR at h1
    split at h1
    · rename_i n
      simp only [decide_eq_true_eq] at h1
      simp [byteD, Nat.mod_eq_of_lt (show n.toNat < 256 by omega)]
      omega
    · simp at h1

/-- A row of bytes in a block of its own. -/
abbrev slB (k : Nat) (l : List UInt8) : AV := .sl (some (k, 0)) l.length 0 false
abbrev farB (l : List UInt8) : ABlk := .cells (bys l) 1 .far none
abbrev ownB (l : List UInt8) : ABlk := .cells (bys l) 1 .own none

theorem bOk_canon {h : AHeap} {a : AV} (hb : bOk h a = true) (n : Nat) : Canon h n a (slB n (bOf h a)) [farB (bOf h a)] := by
  unfold bOk at hb
  simp only [Bool.and_eq_true] at hb
  obtain ⟨h1, h2⟩ := hb
  have h3 := bytes_of h2
  unfold rowOk at h1
  split at h1
  · rename_i k c e
    simp only [Bool.and_eq_true, decide_eq_true_eq] at h1
    obtain ⟨rfl, rfl⟩ := h1
    exact .nil n e 1
  · rename_i i o k c e
    split at h1
    · rename_i vs esz md par hi
      simp only [Bool.and_eq_true, decide_eq_true_eq] at h1
      obtain ⟨rfl, h1⟩ := h1
      have e1 : rowOf h (.sl (some (i, o)) k c e) = (vs.drop o).take (k * 1) := by simp [rowOf, hi]
      rw [e1] at h3
      have e2 : bOf h (.sl (some (i, o)) k c e) = ((vs.drop o).take (k * 1)).map byteD := by rw [bOf, e1]
      rw [e2]
      have e3 : (((vs.drop o).take (k * 1)).map byteD).length = k := by simp; omega
      unfold slB farB
      rw [e3, ← h3]
      exact .row n i o k c e vs 1 md par hi h1 (by rw [h3]; exact bys_frees _)
    · simp at h1
  · simp at h1

theorem bOk_len {h : AHeap} {a : AV} (hb : bOk h a = true) : (bOf h a).length = nOf a := by
  unfold bOk rowOk at hb
  simp only [Bool.and_eq_true] at hb
  obtain ⟨h1, h2⟩ := hb
  split at h1
  · simp only [Bool.and_eq_true, decide_eq_true_eq] at h1
    simp [bOf, rowOf, nOf, h1]
  · split at h1
    · rename_i vs esz md par hi
      simp only [Bool.and_eq_true, decide_eq_true_eq] at h1
      obtain ⟨rfl, h1⟩ := h1
      simp [bOf, rowOf, hi, nOf]
      omega
    · simp at h1
  · simp at h1

/-- A new row of bytes that is yielded. -/
theorem denB {h1 : AHeap} {n0 m k n : Nat} {vs : List AV} {l : List UInt8} {par : Option Nat} (hk : n0 ≤ k) (hb : h1[k]? = some (.cells vs 1 .own par)) (hv : vs = bys l) (hn : n = l.length) : Den h1 n0 m [some k] (.sl (some (k, 0)) n 0 false) (slB m l) [ownB l] := by
  subst hv hn
  have := Den.row (h1 := h1) (n0 := n0) m k 0 l.length 0 false (bys l) 1 par hk (by omega) hb ⟨by simp [capOf], by simp [capOf]⟩ (fun h => ⟨by have := List.eq_nil_of_length_eq_zero h; subst this; rfl, rfl⟩) (by simp)
  have e : ((bys l).drop 0).take (l.length * 1) = bys l := by rw [List.drop_zero, Nat.mul_one, bys_take, List.take_length]
  rw [e] at this
  exact this
theorem denB0 {h1 : AHeap} {n0 m : Nat} {e : Bool} : Den h1 n0 m [none] (.sl none 0 0 e) (slB m []) [ownB []] := .nil m e 1

end Go.Abs
