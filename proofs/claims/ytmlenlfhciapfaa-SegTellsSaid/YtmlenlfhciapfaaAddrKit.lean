/- Addresses as values; bytes at places. -/
import Derived.Test.YtmlenlfhciapfaaPutKit
set_option autoImplicit false
set_option linter.unusedVariables false
set_option linter.unusedSimpArgs false
namespace Go.Abs
variable {P : Program}

/-- An address of these bytes. -/
def adrV (v : Bool) (x0 x1 x2 x3 x4 x5 x6 x7 x8 x9 x10 x11 x12 x13 x14 x15 : Int) : List AV :=
  [.bool v, .int .u8 x0, .int .u8 x1, .int .u8 x2, .int .u8 x3, .int .u8 x4, .int .u8 x5, .int .u8 x6, .int .u8 x7, .int .u8 x8, .int .u8 x9, .int .u8 x10, .int .u8 x11, .int .u8 x12, .int .u8 x13, .int .u8 x14, .int .u8 x15]
/-- The sixteen, the four bytes at a place. -/
def adr16 (l : List UInt8) (p : Nat) : List AV := adrV true (byt l p) (byt l (p + 1)) (byt l (p + 2)) (byt l (p + 3)) (byt l (p + 4)) (byt l (p + 5)) (byt l (p + 6)) (byt l (p + 7)) (byt l (p + 8)) (byt l (p + 9)) (byt l (p + 10)) (byt l (p + 11)) (byt l (p + 12)) (byt l (p + 13)) (byt l (p + 14)) (byt l (p + 15))
def adr4 (l : List UInt8) (p : Nat) : List AV := adrV false (byt l p) (byt l (p + 1)) (byt l (p + 2)) (byt l (p + 3)) 0 0 0 0 0 0 0 0 0 0 0 0

mutual
@[simp] theorem AV.beq_self : ∀ a : AV, a.beq a = true
  | .any => rfl
  | .bool b => by simp [AV.beq]
  | .int k n => by simp [AV.beq]
  | .str s => by simp [AV.beq]
  | .ptr a => by simp [AV.beq]
  | .sl a l c e => by simp [AV.beq]
  | .map r => by simp [AV.beq]
  | .fn f c => by simp [AV.beq, AV.beqs_self c]
  | .nilFn => rfl
  | .agg l => by simp [AV.beq, AV.beqs_self l]
  | .tup l => by simp [AV.beq, AV.beqs_self l]
@[simp] theorem AV.beqs_self : ∀ l : List AV, AV.beqs l l = true
  | [] => rfl
  | a :: l => by simp [AV.beqs, AV.beq_self a, AV.beqs_self l]
end

theorem four_of {l : List UInt8} (h : l.length = 4) : ∃ a b c d, l = [a, b, c, d] := by
  match l, h with
  | [a, b, c, d], _ => exact ⟨a, b, c, d, rfl⟩
theorem sixteen_of {l : List UInt8} (h : l.length = 16) : ∃ a b c d e f g i j k m n o p q r, l = [a, b, c, d, e, f, g, i, j, k, m, n, o, p, q, r] := by
  match l, h with
  | [a, b, c, d, e, f, g, i, j, k, m, n, o, p, q, r], _ => exact ⟨a, b, c, d, e, f, g, i, j, k, m, n, o, p, q, r, rfl⟩

theorem byt_part {l : List UInt8} {p n i : Nat} (h : i < n) : byt ((l.drop p).take n) i = byt l (p + i) := by
  simp [byt, List.getD, List.getElem?_take, h]

/-- What a row of four or sixteen bytes is, as an address. -/
def eFrom (ok bad : Int) : GEnt := fun args h => match args with
  | [b] => match nOf b with
    | 16 => some (bOk h b, .tup [.agg (adr16 (bOf h b) 0), .int .i64 ok], h)
    | 4 => some (bOk h b, .tup [.agg (adr4 (bOf h b) 0), .int .i64 ok], h)
    | _ => none
  | _ => none

/-- The n-th flow's bytes and port; the n-th server's. -/
def kb1 (n : Int) : Int := n % 1073741824 / 65536 % 256
def kb2 (n : Int) : Int := n % 1073741824 / 256 % 256
def kb3 (n : Int) : Int := n % 1073741824 % 256
def kport (n : Int) : Int := 1000 + n % 1073741824 % 50000
def db3 (n : Int) : Int := 1 + n % 200
def dport (n : Int) : Int := 8000 + n % 1000
theorem kb1_range (n : Int) : 0 ≤ kb1 n ∧ kb1 n < 256 := by unfold kb1; omega
theorem kb2_range (n : Int) : 0 ≤ kb2 n ∧ kb2 n < 256 := by unfold kb2; omega
theorem kb3_range (n : Int) : 0 ≤ kb3 n ∧ kb3 n < 256 := by unfold kb3; omega
theorem kport_range (n : Int) : 1000 ≤ kport n ∧ kport n < 51000 := by unfold kport; omega
theorem db3_range (n : Int) : 1 ≤ db3 n ∧ db3 n < 201 := by unfold db3; omega
theorem dport_range (n : Int) : 8000 ≤ dport n ∧ dport n < 9000 := by unfold dport; omega
def kSrc (v : Bool) (n : Int) : List AV := adrV v 10 (kb1 n) (kb2 n) (kb3 n) 0 0 0 0 0 0 0 0 0 0 0 0
def kDst (v : Bool) : List AV := adrV v 192 168 0 1 0 0 0 0 0 0 0 0 0 0 0 0
def dAdr (v : Bool) (n : Int) : List AV := adrV v 172 16 0 (db3 n) 0 0 0 0 0 0 0 0 0 0 0 0
def eKey : GEnt := fun args h => match args with
  | [.int .i64 n, .bool v, .bool u] => some (true, .agg ([.int .u8 (if u then 17 else 6)] ++ kSrc v n ++ kDst v ++ [.int .u16 (kport n), .int .u16 80]), h)
  | _ => none
def eDip : GEnt := fun args h => match args with
  | [.int .i64 n, .bool v] => some (true, .agg (dAdr v n ++ [.int .u16 (dport n)]), h)
  | _ => none

def isZeroV : AV → Bool
  | .int _ n => decide (n = 0)
  | _ => false
@[simp] theorem isZeroV_int (k : IntKind) (n : Int) : isZeroV (.int k n) = decide (n = 0) := rfl

/-- Is it an address? what are its bytes? may it be? -/
def adrWf : List AV → Bool
  | .bool _ :: xs => decide (xs.length = 16) && xs.all isByteR
  | _ => false
def adrBytes : List AV → List UInt8
  | .bool v :: xs => match v with
    | true => xs.map byteD
    | false => (xs.take 4).map byteD
  | _ => []
def adrValid : List AV → Bool
  | .bool v :: xs => match v with
    | true => true
    | false => (xs.drop 4).all isZeroV
  | _ => false

theorem isByteR_int {a : AV} (h : isByteR a = true) : ∃ x, a = .int .u8 x ∧ 0 ≤ x ∧ x < 256 := by
  unfold isByteR at h
  split at h
  · rename_i n; simp only [decide_eq_true_eq] at h; exact ⟨n, rfl, h⟩
  · simp at h

theorem adrWf_lit {cs : List AV} (h : adrWf cs = true) : ∃ v x0 x1 x2 x3 x4 x5 x6 x7 x8 x9 x10 x11 x12 x13 x14 x15, cs = adrV v x0 x1 x2 x3 x4 x5 x6 x7 x8 x9 x10 x11 x12 x13 x14 x15 ∧ (0 ≤ x0 ∧ x0 < 256) ∧ (0 ≤ x1 ∧ x1 < 256) ∧ (0 ≤ x2 ∧ x2 < 256) ∧ (0 ≤ x3 ∧ x3 < 256) ∧ (0 ≤ x4 ∧ x4 < 256) ∧ (0 ≤ x5 ∧ x5 < 256) ∧ (0 ≤ x6 ∧ x6 < 256) ∧ (0 ≤ x7 ∧ x7 < 256) ∧ (0 ≤ x8 ∧ x8 < 256) ∧ (0 ≤ x9 ∧ x9 < 256) ∧ (0 ≤ x10 ∧ x10 < 256) ∧ (0 ≤ x11 ∧ x11 < 256) ∧ (0 ≤ x12 ∧ x12 < 256) ∧ (0 ≤ x13 ∧ x13 < 256) ∧ (0 ≤ x14 ∧ x14 < 256) ∧ (0 ≤ x15 ∧ x15 < 256) := by
  unfold adrWf at h
  split at h
  · rename_i v l
    simp only [Bool.and_eq_true, decide_eq_true_eq] at h
    obtain ⟨hl, h⟩ := h
    match l, hl, h with
    | [a0, a1, a2, a3, a4, a5, a6, a7, a8, a9, a10, a11, a12, a13, a14, a15], _, h =>
      simp only [List.all_cons, List.all_nil, Bool.and_eq_true, and_true] at h
      obtain ⟨h0, h1, h2, h3, h4, h5, h6, h7, h8, h9, h10, h11, h12, h13, h14, h15⟩ := h
      obtain ⟨x0, rfl, b0⟩ := isByteR_int h0
      obtain ⟨x1, rfl, b1⟩ := isByteR_int h1
      obtain ⟨x2, rfl, b2⟩ := isByteR_int h2
      obtain ⟨x3, rfl, b3⟩ := isByteR_int h3
      obtain ⟨x4, rfl, b4⟩ := isByteR_int h4
      obtain ⟨x5, rfl, b5⟩ := isByteR_int h5
      obtain ⟨x6, rfl, b6⟩ := isByteR_int h6
      obtain ⟨x7, rfl, b7⟩ := isByteR_int h7
      obtain ⟨x8, rfl, b8⟩ := isByteR_int h8
      obtain ⟨x9, rfl, b9⟩ := isByteR_int h9
      obtain ⟨x10, rfl, b10⟩ := isByteR_int h10
      obtain ⟨x11, rfl, b11⟩ := isByteR_int h11
      obtain ⟨x12, rfl, b12⟩ := isByteR_int h12
      obtain ⟨x13, rfl, b13⟩ := isByteR_int h13
      obtain ⟨x14, rfl, b14⟩ := isByteR_int h14
      obtain ⟨x15, rfl, b15⟩ := isByteR_int h15
      exact ⟨v, x0, x1, x2, x3, x4, x5, x6, x7, x8, x9, x10, x11, x12, x13, x14, x15, rfl, b0, b1, b2, b3, b4, b5, b6, b7, b8, b9, b10, b11, b12, b13, b14, b15⟩
  · simp at h

def adrV6 : List AV → Bool
  | .bool v :: _ => v
  | _ => false
theorem adrWf_B {cs : List AV} (h : adrWf cs = true) : ∃ v X, cs = .bool v :: bys X ∧ X.length = 16 := by
  unfold adrWf at h
  split at h
  · rename_i v l
    simp only [Bool.and_eq_true, decide_eq_true_eq] at h
    exact ⟨v, l.map byteD, by rw [← bytes_of h.2], by simp [h.1]⟩
  · simp at h
theorem adrB_wf {v : Bool} {X : List UInt8} (h : X.length = 16) : adrWf (.bool v :: bys X) = true := by simp [adrWf, h]
theorem adrB_T (X : List UInt8) : adrBytes (.bool true :: bys X) = X := by simp [adrBytes]
theorem adrB_F (X : List UInt8) : adrBytes (.bool false :: bys X) = X.take 4 := by simp [adrBytes, ← List.map_take]
theorem adrB_17 {v : Bool} {X : List UInt8} (h : X.length = 16) : List.take 17 (AV.bool v :: bys X) = AV.bool v :: bys X := List.take_of_length_le (by simp [h])
theorem adrB_16 {v : Bool} {X : List UInt8} (h : X.length = 16) : List.take 16 (List.drop 1 (AV.bool v :: bys X)) = bys X := by simp [← h]
theorem adrB_free {v : Bool} {X : List UInt8} : AV.free (.agg (.bool v :: bys X)) = true := by simp [AV.free, AV.frees]
theorem denRB {h1 : AHeap} {n0 m k n : Nat} {vs : List AV} {l : List UInt8} {par : Option Nat} {b : Bool} (hk : n0 ≤ k) (hb : h1[k]? = some (.cells vs 1 .own par)) (hv : vs = bys l) (hn : n = l.length) :
    Den h1 n0 m [some k] (.tup [.sl (some (k, 0)) n 0 false, .bool b]) (.tup [slB m l, .bool b]) [ownB l] :=
  .tup _ _ _ _ _ (.cons m [some k] [] _ _ _ _ [ownB l] [] (denB hk hb hv hn) (.cons _ [] [] _ _ _ _ [] [] (.flat _ _ rfl) (.nil _)))
theorem denRB0 {h1 : AHeap} {n0 m : Nat} {e b : Bool} : Den h1 n0 m [none] (.tup [.sl none 0 0 e, .bool b]) (.tup [slB m [], .bool b]) [ownB []] :=
  .tup _ _ _ _ _ (.cons m [none] [] _ _ _ _ [ownB []] [] denB0 (.cons _ [] [] _ _ _ _ [] [] (.flat _ _ rfl) (.nil _)))

def eBytes : GEnt := fun args h => match args with
  | [.agg cs] => some (adrWf cs, slB h.length (adrBytes cs), h ++ [ownB (adrBytes cs)])
  | _ => none
def eValid : GEnt := fun args h => match args with
  | [.agg cs] => some (adrWf cs, .bool (adrValid cs), h)
  | _ => none

end Go.Abs
