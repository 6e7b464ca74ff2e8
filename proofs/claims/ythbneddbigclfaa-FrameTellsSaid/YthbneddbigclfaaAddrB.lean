/- Texts that stand together: PutKit, AddrKit, FourKit, SixKit, SegKit, ABytes, RBytes, RFrom, AFrom, RValid, Round, KeyDip, Pk4Kit, PktKit. -/
import Derived.Test.YthbneddbigclfaaBase
import Derived.Test.YthbneddbigclfaaProg
section
/- Numbers put into bytes. -/
set_option autoImplicit false
set_option linter.unusedVariables false
set_option linter.unusedSimpArgs false
namespace Go.Abs
variable {P : Program}

/-- A number's bytes, the high one first. -/
def bigR (v : Int) : Nat → List UInt8
  | 0 => []
  | n + 1 => u8i (v.fdiv (256 ^ n)) :: bigR v n
@[simp] theorem bigR_length (v : Int) : ∀ n, (bigR v n).length = n
  | 0 => rfl
  | n + 1 => by simp [bigR, bigR_length v n]

/-- Bytes with a number put at a place. -/
def putR (l : List UInt8) (p : Int) (sz : Nat) (v : Int) : List UInt8 := if 0 ≤ p ∧ p + sz ≤ (l.length : Int) then l.take p.toNat ++ bigR v sz ++ l.drop (p.toNat + sz) else l
@[simp] theorem putR_length (l : List UInt8) (p : Int) (sz : Nat) (v : Int) : (putR l p sz v).length = l.length := by
  unfold putR
  split
  · simp; omega
  · rfl

@[simp] theorem intV_some (k : IntKind) (n : Int) : intV (some (.int k n)) = n := rfl
@[simp] theorem boolV_some (b : Bool) : boolV (some (.bool b)) = b := rfl
@[simp] theorem isIntV_some (k : IntKind) (n : Int) : isIntV k (some (.int k n)) = true := by simp [isIntV]
theorem bys_full (l : List UInt8) : List.take (l.length * 1) (bys l) = bys l := by simp

@[simp] theorem byteD_u8 (k : IntKind) (x : UInt8) : byteD (.int k ((x.toNat : Nat) : Int)) = x := by simp [byteD]
theorem bigR8_2 (v : Int) : bigR v 2 = [u8i (v.fdiv 256), u8i (v.fdiv 1)] := rfl
theorem bigR8_4 (v : Int) : bigR v 4 = [u8i (v.fdiv 16777216), u8i (v.fdiv 65536), u8i (v.fdiv 256), u8i (v.fdiv 1)] := rfl
end Go.Abs

end

section
/- Addresses as values; bytes at places. -/
set_option autoImplicit false
set_option linter.unusedVariables false
set_option linter.unusedSimpArgs false
namespace Go.Abs
variable {P : Program}

/-- An address of these bytes. -/
def adrV (v : Bool) (x0 x1 x2 x3 x4 x5 x6 x7 x8 x9 x10 x11 x12 x13 x14 x15 : Int) : List AV :=
  [.bool v, .int .u8 x0, .int .u8 x1, .int .u8 x2, .int .u8 x3, .int .u8 x4, .int .u8 x5, .int .u8 x6, .int .u8 x7, .int .u8 x8, .int .u8 x9, .int .u8 x10, .int .u8 x11, .int .u8 x12, .int .u8 x13, .int .u8 x14, .int .u8 x15]
/-- The sixteen, the four bytes at a place. -/
def adr16 (l : List UInt8) (p : Nat) : List AV := adrV true (byt l p) (byt l (p + 1)) (byt l (p + 2)) (byt l (p + 3)) (byt l (p + 4)) (byt l (p + 5)) (byt l (p + 6)) (byt l (p + 7)) (byt l (p + 8)) (byt l (p + 9)) (byt l (p + 10)) (byt l (p + 11)) (byt l (p + 12)) (byt l (p + 13)) (byt l (p + 14)) (byt l (p + 15))
def adr4 (l : List UInt8) (p : Nat) : List AV := adrV false (byt l p) (byt l (p + 1)) (byt l (p + 2)) (byt l (p + 3)) 0 0 0 0 0 0 0 0 0 0 0 0

mutual
@[simp] theorem AV.beq_self : ∀ a : AV, a.beq a = true
  | .any => rfl
  | .bool b => by simp [AV.beq]
  | .int k n => by simp [AV.beq]
  | .str s => by simp [AV.beq]
  | .ptr a => by simp [AV.beq]
  | .sl a l c e => by simp [AV.beq]
  | .map r => by simp [AV.beq]
  | .fn f c => by simp [AV.beq, AV.beqs_self c]
  | .nilFn => rfl
  | .agg l => by simp [AV.beq, AV.beqs_self l]
  | .tup l => by simp [AV.beq, AV.beqs_self l]
@[simp] theorem AV.beqs_self : ∀ l : List AV, AV.beqs l l = true
  | [] => rfl
  | a :: l => by simp [AV.beqs, AV.beq_self a, AV.beqs_self l]
end

theorem four_of {l : List UInt8} (h : l.length = 4) : ∃ a b c d, l = [a, b, c, d] := by
  match l, h with
  | [a, b, c, d], _ => exact ⟨a, b, c, d, rfl⟩
theorem sixteen_of {l : List UInt8} (h : l.length = 16) : ∃ a b c d e f g i j k m n o p q r, l = [a, b, c, d, e, f, g, i, j, k, m, n, o, p, q, r] := by
  match l, h with
  | [a, b, c, d, e, f, g, i, j, k, m, n, o, p, q, r], _ => exact ⟨a, b, c, d, e, f, g, i, j, k, m, n, o, p, q, r, rfl⟩

theorem byt_part {l : List UInt8} {p n i : Nat} (h : i < n) : byt ((l.drop p).take n) i = byt l (p + i) := by
  simp [byt, List.getD, List.getElem?_take, h]

/-- What a row of four or sixteen bytes is, as an address. -/
def eFrom (ok bad : Int) : GEnt := fun args h => match args with
  | [b] => match nOf b with
    | 16 => some (bOk h b, .tup [.agg (adr16 (bOf h b) 0), .int .i64 ok], h)
    | 4 => some (bOk h b, .tup [.agg (adr4 (bOf h b) 0), .int .i64 ok], h)
    | _ => none
  | _ => none

def isZeroV : AV → Bool
  | .int _ n => decide (n = 0)
  | _ => false
@[simp] theorem isZeroV_int (k : IntKind) (n : Int) : isZeroV (.int k n) = decide (n = 0) := rfl

/-- Is it an address? what are its bytes? may it be? -/
def adrWf : List AV → Bool
  | .bool _ :: xs => decide (xs.length = 16) && xs.all isByteR
  | _ => false
def adrBytes : List AV → List UInt8
  | .bool v :: xs => match v with
    | true => xs.map byteD
    | false => (xs.take 4).map byteD
  | _ => []
theorem isByteR_int {a : AV} (h : isByteR a = true) : ∃ x, a = .int .u8 x ∧ 0 ≤ x ∧ x < 256 := by
  unfold isByteR at h
  split at h
  · rename_i n; simp only [decide_eq_true_eq] at h; exact ⟨n, rfl, h⟩
  · simp at h

theorem adrWf_lit {cs : List AV} (h : adrWf cs = true) : ∃ v x0 x1 x2 x3 x4 x5 x6 x7 x8 x9 x10 x11 x12 x13 x14 x15, cs = adrV v x0 x1 x2 x3 x4 x5 x6 x7 x8 x9 x10 x11 x12 x13 x14 x15 ∧ (0 ≤ x0 ∧ x0 < 256) ∧ (0 ≤ x1 ∧ x1 < 256) ∧ (0 ≤ x2 ∧ x2 < 256) ∧ (0 ≤ x3 ∧ x3 < 256) ∧ (0 ≤ x4 ∧ x4 < 256) ∧ (0 ≤ x5 ∧ x5 < 256) ∧ (0 ≤ x6 ∧ x6 < 256) ∧ (0 ≤ x7 ∧ x7 < 256) ∧ (0 ≤ x8 ∧ x8 < 256) ∧ (0 ≤ x9 ∧ x9 < 256) ∧ (0 ≤ x10 ∧ x10 < 256) ∧ (0 ≤ x11 ∧ x11 < 256) ∧ (0 ≤ x12 ∧ x12 < 256) ∧ (0 ≤ x13 ∧ x13 < 256) ∧ (0 ≤ x14 ∧ x14 < 256) ∧ (0 ≤ x15 ∧ x15 < 256) := by
  unfold adrWf at h
  split at h
  · rename_i v l
    simp only [Bool.and_eq_true, decide_eq_true_eq] at h
    obtain ⟨hl, h⟩ := h
    match l, hl, h with
    | [a0, a1, a2, a3, a4, a5, a6, a7, a8, a9, a10, a11, a12, a13, a14, a15], _, h =>
      simp only [List.all_cons, List.all_nil, Bool.and_eq_true, and_true] at h
      obtain ⟨h0, h1, h2, h3, h4, h5, h6, h7, h8, h9, h10, h11, h12, h13, h14, h15⟩ := h
      obtain ⟨x0, rfl, b0⟩ := isByteR_int h0
      obtain ⟨x1, rfl, b1⟩ := isByteR_int h1
      obtain ⟨x2, rfl, b2⟩ := isByteR_int h2
      obtain ⟨x3, rfl, b3⟩ := isByteR_int h3
      obtain ⟨x4, rfl, b4⟩ := isByteR_int h4
      obtain ⟨x5, rfl, b5⟩ := isByteR_int h5
      obtain ⟨x6, rfl, b6⟩ := isByteR_int h6
      obtain ⟨x7, rfl, b7⟩ := isByteR_int h7
      obtain ⟨x8, rfl, b8⟩ := isByteR_int h8
      obtain ⟨x9, rfl, b9⟩ := isByteR_int h9
      obtain ⟨x10, rfl, b10⟩ := isByteR_int h10
      obtain ⟨x11, rfl, b11⟩ := isByteR_int h11
      obtain ⟨x12, rfl, b12⟩ := isByteR_int h12
      obtain ⟨x13, rfl, b13⟩ := isByteR_int h13
      obtain ⟨x14, rfl, b14⟩ := isByteR_int h14
      obtain ⟨x15, rfl, b15⟩ := isByteR_int h15
      exact ⟨v, x0, x1, x2, x3, x4, x5, x6, x7, x8, x9, x10, x11, x12, x13, x14, x15, rfl, b0, b1, b2, b3, b4, b5, b6, b7, b8, b9, b10, b11, b12, b13, b14, b15⟩
  · simp at h

def adrV6 : List AV → Bool
  | .bool v :: _ => v
  | _ => false
theorem adrWf_B {cs : List AV} (h : adrWf cs = true) : ∃ v X, cs = .bool v :: bys X ∧ X.length = 16 := by
  unfold adrWf at h
  split at h
  · rename_i v l
    simp only [Bool.and_eq_true, decide_eq_true_eq] at h
    exact ⟨v, l.map byteD, by rw [← bytes_of h.2], by simp [h.1]⟩
  · simp at h
theorem adrB_wf {v : Bool} {X : List UInt8} (h : X.length = 16) : adrWf (.bool v :: bys X) = true := by simp [adrWf, h]
theorem adrB_T (X : List UInt8) : adrBytes (.bool true :: bys X) = X := by simp [adrBytes]
theorem adrB_F (X : List UInt8) : adrBytes (.bool false :: bys X) = X.take 4 := by simp [adrBytes, ← List.map_take]
theorem adrB_17 {v : Bool} {X : List UInt8} (h : X.length = 16) : List.take 17 (AV.bool v :: bys X) = AV.bool v :: bys X := List.take_of_length_le (by simp [h])
theorem adrB_free {v : Bool} {X : List UInt8} : AV.free (.agg (.bool v :: bys X)) = true := by simp [AV.free, AV.frees]
def eBytes : GEnt := fun args h => match args with
  | [.agg cs] => some (adrWf cs, slB h.length (adrBytes cs), h ++ [ownB (adrBytes cs)])
  | _ => none
end Go.Abs

end

section
/- What the document says of IPv4's header. -/
set_option autoImplicit false
set_option linter.unusedVariables false
namespace Go.Abs

/-- A header's size. -/
def s4 (l : List UInt8) : Int := byt l 0 % 16 * 4
/-- Why a header is none; 0: it is one. -/
def r4 (l : List UInt8) : Int :=
  if l.length < 20 then 1 else if byt l 0 / 16 ≠ 4 then 3 else if s4 l < 20 then 3 else if word l 2 < s4 l then 3 else if (l.length : Int) < word l 2 then 1 else if chkI (l.take (s4 l).toNat) ≠ 0 then 4
  else if word l 6 % 16384 ≠ 0 then 5 else if byt l 9 ≠ 6 ∧ byt l 9 ≠ 17 then 6 else 0
def z4 (l : List UInt8) (x : Int) : Int := if r4 l = 0 then x else 0
def adrZ4 (l : List UInt8) (p : Nat) : List AV := adrV false (z4 l (byt l p)) (z4 l (byt l (p + 1))) (z4 l (byt l (p + 2))) (z4 l (byt l (p + 3))) 0 0 0 0 0 0 0 0 0 0 0 0
def head4 (l : List UInt8) : List AV := [.int .i64 (z4 l (s4 l)), .int .i64 (z4 l (word l 2)), .int .u8 (z4 l (byt l 9))] ++ adrZ4 l 12 ++ adrZ4 l 16
def v4Read (l : List UInt8) : AV := .tup [.agg (head4 l), .int .i64 (r4 l)]

theorem byt_tk4 {l : List UInt8} {p n i : Nat} (h : i < n) : byt (List.take n (List.drop p l)) i = byt l (p + i) := byt_part h
theorem fdiv16' (x : Int) : x.fdiv 16 = x / 16 := Int.fdiv_eq_ediv_of_nonneg _ (by omega)

theorem and15 {n : Int} (h : 0 ≤ n ∧ n < 256) : abits .u8 (· &&& ·) n 15 = n % 16 := by
  obtain ⟨a, rfl⟩ := Int.eq_ofNat_of_zero_le h.1
  have h1 : (BitVec.ofInt 8 (15 : Int)).toNat = 15 := by decide
  have h2 := ofIntNat 8 a (by omega)
  show IntKind.u8.wrap ((BitVec.ofInt 8 (a : Int) &&& BitVec.ofInt 8 (15 : Int)).toNat : Int) = _
  rw [BitVec.toNat_and, h2, h1, show (15 : Nat) = 2 ^ 4 - 1 by rfl, Nat.and_two_pow_sub_one_eq_mod, wrapU8 (by omega)]
  omega
theorem and3f {n : Int} (h : 0 ≤ n ∧ n < 65536) : abits .u16 (· &&& ·) n 16383 = n % 16384 := by
  obtain ⟨a, rfl⟩ := Int.eq_ofNat_of_zero_le h.1
  have h1 : (BitVec.ofInt 16 (16383 : Int)).toNat = 16383 := by decide
  have h2 := ofIntNat 16 a (by omega)
  show IntKind.u16.wrap ((BitVec.ofInt 16 (a : Int) &&& BitVec.ofInt 16 (16383 : Int)).toNat : Int) = _
  rw [BitVec.toNat_and, h2, h1, show (16383 : Nat) = 2 ^ 14 - 1 by rfl, Nat.and_two_pow_sub_one_eq_mod, wrapU16 (by omega)]
  omega
theorem and3fi {n : Int} (h : 0 ≤ n ∧ n < 65536) : abits .i64 (· &&& ·) n 16383 = n % 16384 := by
  obtain ⟨a, rfl⟩ := Int.eq_ofNat_of_zero_le h.1
  have h1 : (BitVec.ofInt 64 (16383 : Int)).toNat = 16383 := by decide
  have h2 := ofIntNat 64 a (by omega)
  show IntKind.i64.wrap ((BitVec.ofInt 64 (a : Int) &&& BitVec.ofInt 64 (16383 : Int)).toNat : Int) = _
  rw [BitVec.toNat_and, h2, h1, show (16383 : Nat) = 2 ^ 14 - 1 by rfl, Nat.and_two_pow_sub_one_eq_mod, wrapI64 (by omega)]
  omega

def makes4 (cs ds : List AV) (n : Int) : Prop := adrV6 cs = false ∧ adrV6 ds = false ∧ 0 ≤ n ∧ n ≤ 65515
instance (cs ds : List AV) (n : Int) : Decidable (makes4 cs ds n) := by unfold makes4; infer_instance
end Go.Abs

end

section
/- What the document says of IPv6's header. -/
set_option autoImplicit false
set_option linter.unusedVariables false
namespace Go.Abs

/-- Why a header is none; 0: it is one. -/
def r6 (l : List UInt8) : Int :=
  if l.length < 40 then 1 else if byt l 0 / 16 ≠ 6 then 3 else if (l.length : Int) < 40 + word l 4 then 1 else if byt l 6 = 44 then 5 else if byt l 6 ≠ 6 ∧ byt l 6 ≠ 17 then 6 else 0
/-- What is told, if it is one. -/
def z6 (l : List UInt8) (x : Int) : Int := if r6 l = 0 then x else 0
def adrZ6 (l : List UInt8) (p : Nat) : List AV := adrV (decide (r6 l = 0)) (z6 l (byt l p)) (z6 l (byt l (p + 1))) (z6 l (byt l (p + 2))) (z6 l (byt l (p + 3))) (z6 l (byt l (p + 4))) (z6 l (byt l (p + 5))) (z6 l (byt l (p + 6))) (z6 l (byt l (p + 7)))
  (z6 l (byt l (p + 8))) (z6 l (byt l (p + 9))) (z6 l (byt l (p + 10))) (z6 l (byt l (p + 11))) (z6 l (byt l (p + 12))) (z6 l (byt l (p + 13))) (z6 l (byt l (p + 14))) (z6 l (byt l (p + 15)))
def head6 (l : List UInt8) : List AV := [.int .i64 (z6 l (40 + word l 4)), .int .u8 (z6 l (byt l 6))] ++ adrZ6 l 8 ++ adrZ6 l 24
def v6Read (l : List UInt8) : AV := .tup [.agg (head6 l), .int .i64 (r6 l)]
def v6RRead (l : List UInt8) : AV := .tup [.agg (.int .i64 (z6 l 40) :: head6 l), .int .i64 (r6 l)]

theorem byt_tk {l : List UInt8} {p n i : Nat} (h : i < n) : byt (List.take n (List.drop p l)) i = byt l (p + i) := byt_part h
theorem capOf_f (l c : Nat) : capOf l c false = l + c := rfl

theorem fdiv16 (x : Int) : x.fdiv 16 = x / 16 := Int.fdiv_eq_ediv_of_nonneg _ (by omega)

def makes6 (cs ds : List AV) (n : Int) : Prop := adrV6 cs = true ∧ adrV6 ds = true ∧ 0 ≤ n ∧ n ≤ 65535
instance (cs ds : List AV) (n : Int) : Decidable (makes6 cs ds n) := by unfold makes6; infer_instance
end Go.Abs

end

section
/- What the document says of TCP's and UDP's segments. -/
set_option autoImplicit false
set_option linter.unusedVariables false
namespace Go.Abs

theorem fdiv16s (x : Int) : x.fdiv 16 = x / 16 := Int.fdiv_eq_ediv_of_nonneg _ (by omega)
/-- Why a segment is none; 0: it is one. -/
def segR (p : Int) (l : List UInt8) : Int :=
  if p = 6 then (if l.length < 20 then 1 else if byt l 12 / 16 * 4 < 20 then 3 else if (l.length : Int) < byt l 12 / 16 * 4 then 3 else 0)
  else if p = 17 then (if l.length < 8 then 1 else if word l 4 < 8 then 3 else if (l.length : Int) < word l 4 then 3 else 0)
  else 6
def segZ (p : Int) (l : List UInt8) (x : Int) : Int := if segR p l = 0 then x else 0
def segF (p : Int) (l : List UInt8) : Int := if p = 6 then segZ p l (byt l 13) else 0
def segRead (p : Int) (l : List UInt8) : AV := .tup [.agg [.int .u16 (segZ p l (word l 0)), .int .u16 (segZ p l (word l 2)), .int .u8 (segF p l)], .int .i64 (segR p l)]
def segRRead (p : Int) (l : List UInt8) : AV := .tup [.agg [.int .i64 (segZ p l (word l 0)), .int .i64 (segZ p l (word l 2)), .int .u8 (segF p l)], .int .i64 (segR p l)]
theorem segR_len {p : Int} {l : List UInt8} (h : segR p l = 0) : (p = 6 ∧ 20 ≤ l.length) ∨ (p = 17 ∧ 8 ≤ l.length) := by
  unfold segR at h
  split at h
  · split at h
    · omega
    · exact .inl ⟨by assumption, by omega⟩
  · split at h
    · split at h
      · omega
      · exact .inr ⟨by assumption, by omega⟩
    · omega
def eSegR : GEnt := fun args h => match args with
  | [.int .u8 p, b] => some (bOk h b && decide (nOf b ≤ 1000000000000), segRead p (bOf h b), h)
  | _ => none
def eRSegR : GEnt := fun args h => match args with
  | [.int .u8 p, b] => some (bOk h b && decide (nOf b ≤ 1000000000000), segRRead p (bOf h b), h)
  | _ => none

theorem segRead_N {p r : Int} {l : List UInt8} (h : segR p l = r) (h0 : r ≠ 0) : segRead p l = .tup [.agg [.int .u16 0, .int .u16 0, .int .u8 0], .int .i64 r] ∧ segRRead p l = .tup [.agg [.int .i64 0, .int .i64 0, .int .u8 0], .int .i64 r] := by
  have hf : segF p l = 0 := by unfold segF segZ; rw [h, if_neg h0]; split <;> rfl
  have hz : ∀ x, segZ p l x = 0 := fun x => by unfold segZ; rw [h, if_neg h0]
  unfold segRead segRRead
  rw [hf, hz, hz, h]; exact ⟨rfl, rfl⟩
theorem segRead_Y {p : Int} {l : List UInt8} (h : segR p l = 0) : segRead p l = .tup [.agg [.int .u16 (word l 0), .int .u16 (word l 2), .int .u8 (segF p l)], .int .i64 0] ∧ segRRead p l = .tup [.agg [.int .i64 (word l 0), .int .i64 (word l 2), .int .u8 (segF p l)], .int .i64 0] := by
  have hz : ∀ x, segZ p l x = x := fun x => by unfold segZ; rw [if_pos h]
  unfold segRead segRRead
  rw [hz, hz, h]; exact ⟨rfl, rfl⟩

/-- What is summed ahead of a segment; is it good? -/
def pseudoL (p n : Int) (cs ds : List AV) : List UInt8 := adrBytes cs ++ adrBytes ds ++ (if adrV6 cs = true then bigR n 4 ++ [0, 0, 0, u8i p] else [0, u8i p] ++ bigR n 2)
def goodS (p : Int) (l : List UInt8) (cs ds : List AV) : Bool := decide (segR p l = 0 ∧ adrV6 cs = adrV6 ds) && (decide (p = 17 ∧ word l 6 = 0) || decide (sumI l (sumI (pseudoL p l.length cs ds) 0) = 65535))
def ePseudo : GEnt := fun args h => match args with
  | [.int .u8 p, .int .i64 n, .agg cs, .agg ds] => some (adrWf cs && (adrWf ds && decide ((0 ≤ p ∧ p < 256) ∧ 0 ≤ n ∧ adrV6 cs = adrV6 ds)), slB h.length (pseudoL p n cs ds), h ++ [ownB (pseudoL p n cs ds)])
  | _ => none
def eGoodS : GEnt := fun args h => match args with
  | [.int .u8 p, b, .agg cs, .agg ds] => some (bOk h b && (adrWf cs && (adrWf ds && decide (nOf b ≤ 1000000000000 ∧ 0 ≤ p ∧ p < 256))), .bool (goodS p (bOf h b) cs ds), h)
  | _ => none
theorem u8i_mod {n m : Int} (h : n % 256 = m % 256) : u8i n = u8i m := by unfold u8i; rw [h]
theorem be2_16 (n : Int) : IntKind.u8.wrap ((IntKind.u64.wrap (IntKind.u16.wrap n)).fdiv 256) = ((u8i (n.fdiv 256)).toNat : Int) ∧ IntKind.u8.wrap (IntKind.u64.wrap (IntKind.u16.wrap n)) = ((u8i (n.fdiv 1)).toNat : Int) := by
  have e : IntKind.u64.wrap (IntKind.u16.wrap n) = n % 65536 := by rw [wrapU16', wrapU64 (by omega)]
  rw [e, wrapU8_byte, wrapU8_byte]
  refine ⟨?_, ?_⟩ <;> congr 2 <;> apply u8i_mod
  · rw [Int.fdiv_eq_ediv_of_nonneg _ (by omega), Int.fdiv_eq_ediv_of_nonneg _ (by omega)]; omega
  · rw [Int.fdiv_eq_ediv_of_nonneg _ (by omega)]; omega
theorem be4_32 (n : Int) : IntKind.u8.wrap ((((IntKind.u64.wrap (IntKind.u32.wrap n)).fdiv 256).fdiv 256).fdiv 256) = ((u8i (n.fdiv 16777216)).toNat : Int) ∧ IntKind.u8.wrap (((IntKind.u64.wrap (IntKind.u32.wrap n)).fdiv 256).fdiv 256) = ((u8i (n.fdiv 65536)).toNat : Int) ∧
    IntKind.u8.wrap ((IntKind.u64.wrap (IntKind.u32.wrap n)).fdiv 256) = ((u8i (n.fdiv 256)).toNat : Int) ∧ IntKind.u8.wrap (IntKind.u64.wrap (IntKind.u32.wrap n)) = ((u8i (n.fdiv 1)).toNat : Int) := by
  have e : IntKind.u64.wrap (IntKind.u32.wrap n) = n % 4294967296 := by
    have : IntKind.u32.wrap n = n % 4294967296 := by simp [IntKind.wrap, IntKind.bits, IntKind.signed]
    rw [this, wrapU64 (by omega)]
  have f : ∀ x : Int, x.fdiv 256 = x / 256 := fun x => Int.fdiv_eq_ediv_of_nonneg _ (by omega)
  simp only [e, f, wrapU8_byte]
  refine ⟨?_, ?_, ?_, ?_⟩ <;> congr 2 <;> apply u8i_mod <;> (try rw [Int.fdiv_eq_ediv_of_nonneg _ (by omega)]) <;> omega

end Go.Abs

end

section
/- bazaar/addr.Bytes. -/
set_option autoImplicit false
set_option maxRecDepth 100000
set_option linter.unusedVariables false
set_option linter.unusedSimpArgs false
namespace Go.Proofs.Ythbneddbigclfaa.L
open Go Go.Abs

noncomputable def hABytesT0 (x0 x1 x2 x3 x4 x5 x6 x7 x8 x9 x10 x11 x12 x13 x14 x15 : Int) : AHeap := [ABlk.cells [AV.bool true, AV.int IntKind.u8 x0, AV.int IntKind.u8 x1, AV.int IntKind.u8 x2, AV.int IntKind.u8 x3, AV.int IntKind.u8 x4, AV.int IntKind.u8 x5, AV.int IntKind.u8 x6, AV.int IntKind.u8 x7, AV.int IntKind.u8 x8, AV.int IntKind.u8 x9, AV.int IntKind.u8 x10, AV.int IntKind.u8 x11, AV.int IntKind.u8 x12, AV.int IntKind.u8 x13, AV.int IntKind.u8 x14, AV.int IntKind.u8 x15] 17 Md.own none, ABlk.cells [] 1 Md.ro none, ABlk.cells [AV.int IntKind.u8 x0, AV.int IntKind.u8 x1, AV.int IntKind.u8 x2, AV.int IntKind.u8 x3, AV.int IntKind.u8 x4, AV.int IntKind.u8 x5, AV.int IntKind.u8 x6, AV.int IntKind.u8 x7, AV.int IntKind.u8 x8, AV.int IntKind.u8 x9, AV.int IntKind.u8 x10, AV.int IntKind.u8 x11, AV.int IntKind.u8 x12, AV.int IntKind.u8 x13, AV.int IntKind.u8 x14, AV.int IntKind.u8 x15] 1 Md.own (some 1)]
theorem nfABytesT {R : Type} (x0 x1 x2 x3 x4 x5 x6 x7 x8 x9 x10 x11 x12 x13 x14 x15 : Int) (K : AV → AHeap → Option R) :
 qrun Try.prog [] 100 6 [] [] 57 [.agg (adrV true x0 x1 x2 x3 x4 x5 x6 x7 x8 x9 x10 x11 x12 x13 x14 x15)] [] K =
 K (AV.sl (some (2, 0)) 16 0 false) ((hABytesT0 x0 x1 x2 x3 x4 x5 x6 x7 x8 x9 x10 x11 x12 x13 x14 x15)) := by
  kernel_rfl

noncomputable def hABytesF0 (x0 x1 x2 x3 x4 x5 x6 x7 x8 x9 x10 x11 x12 x13 x14 x15 : Int) : AHeap := [ABlk.cells [AV.bool false, AV.int IntKind.u8 x0, AV.int IntKind.u8 x1, AV.int IntKind.u8 x2, AV.int IntKind.u8 x3, AV.int IntKind.u8 x4, AV.int IntKind.u8 x5, AV.int IntKind.u8 x6, AV.int IntKind.u8 x7, AV.int IntKind.u8 x8, AV.int IntKind.u8 x9, AV.int IntKind.u8 x10, AV.int IntKind.u8 x11, AV.int IntKind.u8 x12, AV.int IntKind.u8 x13, AV.int IntKind.u8 x14, AV.int IntKind.u8 x15] 17 Md.own none, ABlk.cells [] 1 Md.ro none, ABlk.cells [AV.int IntKind.u8 x0, AV.int IntKind.u8 x1, AV.int IntKind.u8 x2, AV.int IntKind.u8 x3] 1 Md.own (some 1)]
theorem nfABytesF {R : Type} (x0 x1 x2 x3 x4 x5 x6 x7 x8 x9 x10 x11 x12 x13 x14 x15 : Int) (K : AV → AHeap → Option R) :
 qrun Try.prog [] 100 6 [] [] 57 [.agg (adrV false x0 x1 x2 x3 x4 x5 x6 x7 x8 x9 x10 x11 x12 x13 x14 x15)] [] K =
 K (AV.sl (some (2, 0)) 4 0 false) ((hABytesF0 x0 x1 x2 x3 x4 x5 x6 x7 x8 x9 x10 x11 x12 x13 x14 x15)) := by
  kernel_rfl


theorem sABytes : SoundE Try.prog 57 (entF eBytes) := by
  refine canonR_sound fun args h v h' hg => ?_
  unfold eBytes at hg
  split at hg
  · rename_i cs
    simp only [Option.some.injEq, Prod.mk.injEq] at hg
    obtain ⟨hw, rfl, rfl⟩ := hg
    obtain ⟨v, x0, x1, x2, x3, x4, x5, x6, x7, x8, x9, x10, x11, x12, x13, x14, x15, rfl, b0, b1, b2, b3, b4, b5, b6, b7, b8, b9, b10, b11, b12, b13, b14, b15⟩ := adrWf_lit hw
    refine ⟨[.agg (adrV v x0 x1 x2 x3 x4 x5 x6 x7 x8 x9 x10 x11 x12 x13 x14 x15)], [], .cons _ _ _ _ _ _ _ (.flat _ _ rfl) (.nil _), ?_⟩
    cases v
    · refine ⟨_, _, Runs.ofT0 (find_nil _) (F := 100) (n := 6) (pr := []) (nfABytesF x0 x1 x2 x3 x4 x5 x6 x7 x8 x9 x10 x11 x12 x13 x14 x15 _), [some 2], _, rfl, denB (by simp) rfl (show [.int .u8 x0, .int .u8 x1, .int .u8 x2, .int .u8 x3] = bys [byteD (.int .u8 x0), byteD (.int .u8 x1), byteD (.int .u8 x2), byteD (.int .u8 x3)] from bytes_of (l := [.int .u8 x0, .int .u8 x1, .int .u8 x2, .int .u8 x3]) (by simp [isByteR]; omega)) rfl, ksOk1 _⟩
    · refine ⟨_, _, Runs.ofT0 (find_nil _) (F := 100) (n := 6) (pr := []) (nfABytesT x0 x1 x2 x3 x4 x5 x6 x7 x8 x9 x10 x11 x12 x13 x14 x15 _), [some 2], _, rfl, denB (by simp) rfl (show [.int .u8 x0, .int .u8 x1, .int .u8 x2, .int .u8 x3, .int .u8 x4, .int .u8 x5, .int .u8 x6, .int .u8 x7, .int .u8 x8, .int .u8 x9, .int .u8 x10, .int .u8 x11, .int .u8 x12, .int .u8 x13, .int .u8 x14, .int .u8 x15] = bys [byteD (.int .u8 x0), byteD (.int .u8 x1), byteD (.int .u8 x2), byteD (.int .u8 x3), byteD (.int .u8 x4), byteD (.int .u8 x5), byteD (.int .u8 x6), byteD (.int .u8 x7), byteD (.int .u8 x8), byteD (.int .u8 x9), byteD (.int .u8 x10), byteD (.int .u8 x11), byteD (.int .u8 x12), byteD (.int .u8 x13), byteD (.int .u8 x14), byteD (.int .u8 x15)] from bytes_of (l := [.int .u8 x0, .int .u8 x1, .int .u8 x2, .int .u8 x3, .int .u8 x4, .int .u8 x5, .int .u8 x6, .int .u8 x7, .int .u8 x8, .int .u8 x9, .int .u8 x10, .int .u8 x11, .int .u8 x12, .int .u8 x13, .int .u8 x14, .int .u8 x15]) (by simp [isByteR]; omega)) rfl, ksOk1 _⟩
  · simp at hg

end Go.Proofs.Ythbneddbigclfaa.L

end

section
/- bazaar/bazaarref1.Bytes. -/
set_option autoImplicit false
set_option maxRecDepth 100000
set_option linter.unusedVariables false
set_option linter.unusedSimpArgs false
namespace Go.Proofs.Ythbneddbigclfaa.L
open Go Go.Abs

noncomputable def hRBytesT0 (x0 x1 x2 x3 x4 x5 x6 x7 x8 x9 x10 x11 x12 x13 x14 x15 : Int) : AHeap := [ABlk.cells [AV.bool true, AV.int IntKind.u8 x0, AV.int IntKind.u8 x1, AV.int IntKind.u8 x2, AV.int IntKind.u8 x3, AV.int IntKind.u8 x4, AV.int IntKind.u8 x5, AV.int IntKind.u8 x6, AV.int IntKind.u8 x7, AV.int IntKind.u8 x8, AV.int IntKind.u8 x9, AV.int IntKind.u8 x10, AV.int IntKind.u8 x11, AV.int IntKind.u8 x12, AV.int IntKind.u8 x13, AV.int IntKind.u8 x14, AV.int IntKind.u8 x15] 17 Md.own none, ABlk.cells [] 1 Md.ro none, ABlk.cells [AV.int IntKind.u8 x0, AV.int IntKind.u8 x1, AV.int IntKind.u8 x2, AV.int IntKind.u8 x3, AV.int IntKind.u8 x4, AV.int IntKind.u8 x5, AV.int IntKind.u8 x6, AV.int IntKind.u8 x7, AV.int IntKind.u8 x8, AV.int IntKind.u8 x9, AV.int IntKind.u8 x10, AV.int IntKind.u8 x11, AV.int IntKind.u8 x12, AV.int IntKind.u8 x13, AV.int IntKind.u8 x14, AV.int IntKind.u8 x15] 1 Md.own (some 1)]
theorem nfRBytesT {R : Type} (x0 x1 x2 x3 x4 x5 x6 x7 x8 x9 x10 x11 x12 x13 x14 x15 : Int) (K : AV → AHeap → Option R) :
 qrun Try.prog [] 100 6 [] [] 32 [.agg (adrV true x0 x1 x2 x3 x4 x5 x6 x7 x8 x9 x10 x11 x12 x13 x14 x15)] [] K =
 K (AV.sl (some (2, 0)) 16 0 false) ((hRBytesT0 x0 x1 x2 x3 x4 x5 x6 x7 x8 x9 x10 x11 x12 x13 x14 x15)) := by
  kernel_rfl

noncomputable def hRBytesF0 (x0 x1 x2 x3 x4 x5 x6 x7 x8 x9 x10 x11 x12 x13 x14 x15 : Int) : AHeap := [ABlk.cells [AV.bool false, AV.int IntKind.u8 x0, AV.int IntKind.u8 x1, AV.int IntKind.u8 x2, AV.int IntKind.u8 x3, AV.int IntKind.u8 x4, AV.int IntKind.u8 x5, AV.int IntKind.u8 x6, AV.int IntKind.u8 x7, AV.int IntKind.u8 x8, AV.int IntKind.u8 x9, AV.int IntKind.u8 x10, AV.int IntKind.u8 x11, AV.int IntKind.u8 x12, AV.int IntKind.u8 x13, AV.int IntKind.u8 x14, AV.int IntKind.u8 x15] 17 Md.own none, ABlk.cells [] 1 Md.ro none, ABlk.cells [AV.int IntKind.u8 x0, AV.int IntKind.u8 x1, AV.int IntKind.u8 x2, AV.int IntKind.u8 x3] 1 Md.own (some 1)]
theorem nfRBytesF {R : Type} (x0 x1 x2 x3 x4 x5 x6 x7 x8 x9 x10 x11 x12 x13 x14 x15 : Int) (K : AV → AHeap → Option R) :
 qrun Try.prog [] 100 6 [] [] 32 [.agg (adrV false x0 x1 x2 x3 x4 x5 x6 x7 x8 x9 x10 x11 x12 x13 x14 x15)] [] K =
 K (AV.sl (some (2, 0)) 4 0 false) ((hRBytesF0 x0 x1 x2 x3 x4 x5 x6 x7 x8 x9 x10 x11 x12 x13 x14 x15)) := by
  kernel_rfl


theorem sRBytes : SoundE Try.prog 32 (entF eBytes) := by
  refine canonR_sound fun args h v h' hg => ?_
  unfold eBytes at hg
  split at hg
  · rename_i cs
    simp only [Option.some.injEq, Prod.mk.injEq] at hg
    obtain ⟨hw, rfl, rfl⟩ := hg
    obtain ⟨v, x0, x1, x2, x3, x4, x5, x6, x7, x8, x9, x10, x11, x12, x13, x14, x15, rfl, b0, b1, b2, b3, b4, b5, b6, b7, b8, b9, b10, b11, b12, b13, b14, b15⟩ := adrWf_lit hw
    refine ⟨[.agg (adrV v x0 x1 x2 x3 x4 x5 x6 x7 x8 x9 x10 x11 x12 x13 x14 x15)], [], .cons _ _ _ _ _ _ _ (.flat _ _ rfl) (.nil _), ?_⟩
    cases v
    · refine ⟨_, _, Runs.ofT0 (find_nil _) (F := 100) (n := 6) (pr := []) (nfRBytesF x0 x1 x2 x3 x4 x5 x6 x7 x8 x9 x10 x11 x12 x13 x14 x15 _), [some 2], _, rfl, denB (by simp) rfl (show [.int .u8 x0, .int .u8 x1, .int .u8 x2, .int .u8 x3] = bys [byteD (.int .u8 x0), byteD (.int .u8 x1), byteD (.int .u8 x2), byteD (.int .u8 x3)] from bytes_of (l := [.int .u8 x0, .int .u8 x1, .int .u8 x2, .int .u8 x3]) (by simp [isByteR]; omega)) rfl, ksOk1 _⟩
    · refine ⟨_, _, Runs.ofT0 (find_nil _) (F := 100) (n := 6) (pr := []) (nfRBytesT x0 x1 x2 x3 x4 x5 x6 x7 x8 x9 x10 x11 x12 x13 x14 x15 _), [some 2], _, rfl, denB (by simp) rfl (show [.int .u8 x0, .int .u8 x1, .int .u8 x2, .int .u8 x3, .int .u8 x4, .int .u8 x5, .int .u8 x6, .int .u8 x7, .int .u8 x8, .int .u8 x9, .int .u8 x10, .int .u8 x11, .int .u8 x12, .int .u8 x13, .int .u8 x14, .int .u8 x15] = bys [byteD (.int .u8 x0), byteD (.int .u8 x1), byteD (.int .u8 x2), byteD (.int .u8 x3), byteD (.int .u8 x4), byteD (.int .u8 x5), byteD (.int .u8 x6), byteD (.int .u8 x7), byteD (.int .u8 x8), byteD (.int .u8 x9), byteD (.int .u8 x10), byteD (.int .u8 x11), byteD (.int .u8 x12), byteD (.int .u8 x13), byteD (.int .u8 x14), byteD (.int .u8 x15)] from bytes_of (l := [.int .u8 x0, .int .u8 x1, .int .u8 x2, .int .u8 x3, .int .u8 x4, .int .u8 x5, .int .u8 x6, .int .u8 x7, .int .u8 x8, .int .u8 x9, .int .u8 x10, .int .u8 x11, .int .u8 x12, .int .u8 x13, .int .u8 x14, .int .u8 x15]) (by simp [isByteR]; omega)) rfl, ksOk1 _⟩
  · simp at hg

end Go.Proofs.Ythbneddbigclfaa.L

end

section
/- bazaar/bazaarref1.From. -/
set_option autoImplicit false
set_option maxRecDepth 100000
set_option linter.unusedVariables false
set_option linter.unusedSimpArgs false
namespace Go.Proofs.Ythbneddbigclfaa.L
open Go Go.Abs

theorem nfRFrom16 {R : Type} (a b c d e f g i j k m n o p q r : UInt8) (K : AV → Option R) : qrun Try.prog [] 100 4 [] [] 43 [.sl (some (0, 0)) 16 0 false] [.cells [.int .u8 ((a.toNat : Nat) : Int), .int .u8 ((b.toNat : Nat) : Int), .int .u8 ((c.toNat : Nat) : Int), .int .u8 ((d.toNat : Nat) : Int), .int .u8 ((e.toNat : Nat) : Int), .int .u8 ((f.toNat : Nat) : Int), .int .u8 ((g.toNat : Nat) : Int), .int .u8 ((i.toNat : Nat) : Int), .int .u8 ((j.toNat : Nat) : Int), .int .u8 ((k.toNat : Nat) : Int), .int .u8 ((m.toNat : Nat) : Int), .int .u8 ((n.toNat : Nat) : Int), .int .u8 ((o.toNat : Nat) : Int), .int .u8 ((p.toNat : Nat) : Int), .int .u8 ((q.toNat : Nat) : Int), .int .u8 ((r.toNat : Nat) : Int)] 1 .far none] (fun v _ => K v) = K (.tup [.agg (adr16 [a, b, c, d, e, f, g, i, j, k, m, n, o, p, q, r] 0), .int .i64 0]) := by kernel_rfl
theorem nfRFrom4 {R : Type} (a b c d : UInt8) (K : AV → Option R) : qrun Try.prog [] 100 4 [] [] 43 [.sl (some (0, 0)) 4 0 false] [.cells [.int .u8 ((a.toNat : Nat) : Int), .int .u8 ((b.toNat : Nat) : Int), .int .u8 ((c.toNat : Nat) : Int), .int .u8 ((d.toNat : Nat) : Int)] 1 .far none] (fun v _ => K v) = K (.tup [.agg (adr4 [a, b, c, d] 0), .int .i64 0]) := by kernel_rfl

theorem sRFrom : SoundE Try.prog 43 (entF (eFrom 0 2)) := by
  refine canonV_sound fun args h v h' hg => ?_
  unfold eFrom at hg
  split at hg
  · rename_i b
    split at hg
    · rename_i hn
      simp only [Option.some.injEq, Prod.mk.injEq] at hg
      obtain ⟨hb, rfl, rfl⟩ := hg
      refine ⟨rfl, rfl, [slB 0 (bOf h b)], [farB (bOf h b)], .cons _ _ _ _ _ _ _ (bOk_canon hb 0) (.nil _), ?_⟩
      have hl := bOk_len hb
      rw [hn] at hl
      generalize bOf h b = l at hl
      obtain ⟨a, b, c, d, e, f, g, i, j, k, m, n, o, p, q, r, rfl⟩ := sixteen_of hl
      exact Runs.valT0 (find_nil _) (F := 100) (n := 4) (pr := []) (nfRFrom16 a b c d e f g i j k m n o p q r _)
    · rename_i hn
      simp only [Option.some.injEq, Prod.mk.injEq] at hg
      obtain ⟨hb, rfl, rfl⟩ := hg
      refine ⟨rfl, rfl, [slB 0 (bOf h b)], [farB (bOf h b)], .cons _ _ _ _ _ _ _ (bOk_canon hb 0) (.nil _), ?_⟩
      have hl := bOk_len hb
      rw [hn] at hl
      generalize bOf h b = l at hl
      obtain ⟨a, b, c, d, rfl⟩ := four_of hl
      exact Runs.valT0 (find_nil _) (F := 100) (n := 4) (pr := []) (nfRFrom4 a b c d _)
    · simp at hg
  · simp at hg

end Go.Proofs.Ythbneddbigclfaa.L

end

section
/- bazaar/addr.From. -/
set_option autoImplicit false
set_option maxRecDepth 100000
set_option linter.unusedVariables false
set_option linter.unusedSimpArgs false
namespace Go.Proofs.Ythbneddbigclfaa.L
open Go Go.Abs

theorem nfAFrom16 {R : Type} (a b c d e f g i j k m n o p q r : UInt8) (K : AV → Option R) : qrun Try.prog [] 100 4 [] [] 61 [.sl (some (0, 0)) 16 0 false] [.cells [.int .u8 ((a.toNat : Nat) : Int), .int .u8 ((b.toNat : Nat) : Int), .int .u8 ((c.toNat : Nat) : Int), .int .u8 ((d.toNat : Nat) : Int), .int .u8 ((e.toNat : Nat) : Int), .int .u8 ((f.toNat : Nat) : Int), .int .u8 ((g.toNat : Nat) : Int), .int .u8 ((i.toNat : Nat) : Int), .int .u8 ((j.toNat : Nat) : Int), .int .u8 ((k.toNat : Nat) : Int), .int .u8 ((m.toNat : Nat) : Int), .int .u8 ((n.toNat : Nat) : Int), .int .u8 ((o.toNat : Nat) : Int), .int .u8 ((p.toNat : Nat) : Int), .int .u8 ((q.toNat : Nat) : Int), .int .u8 ((r.toNat : Nat) : Int)] 1 .far none] (fun v _ => K v) = K (.tup [.agg (adr16 [a, b, c, d, e, f, g, i, j, k, m, n, o, p, q, r] 0), .int .i64 0]) := by kernel_rfl
theorem nfAFrom4 {R : Type} (a b c d : UInt8) (K : AV → Option R) : qrun Try.prog [] 100 4 [] [] 61 [.sl (some (0, 0)) 4 0 false] [.cells [.int .u8 ((a.toNat : Nat) : Int), .int .u8 ((b.toNat : Nat) : Int), .int .u8 ((c.toNat : Nat) : Int), .int .u8 ((d.toNat : Nat) : Int)] 1 .far none] (fun v _ => K v) = K (.tup [.agg (adr4 [a, b, c, d] 0), .int .i64 0]) := by kernel_rfl

theorem sAFrom : SoundE Try.prog 61 (entF (eFrom 0 2)) := by
  refine canonV_sound fun args h v h' hg => ?_
  unfold eFrom at hg
  split at hg
  · rename_i b
    split at hg
    · rename_i hn
      simp only [Option.some.injEq, Prod.mk.injEq] at hg
      obtain ⟨hb, rfl, rfl⟩ := hg
      refine ⟨rfl, rfl, [slB 0 (bOf h b)], [farB (bOf h b)], .cons _ _ _ _ _ _ _ (bOk_canon hb 0) (.nil _), ?_⟩
      have hl := bOk_len hb
      rw [hn] at hl
      generalize bOf h b = l at hl
      obtain ⟨a, b, c, d, e, f, g, i, j, k, m, n, o, p, q, r, rfl⟩ := sixteen_of hl
      exact Runs.valT0 (find_nil _) (F := 100) (n := 4) (pr := []) (nfAFrom16 a b c d e f g i j k m n o p q r _)
    · rename_i hn
      simp only [Option.some.injEq, Prod.mk.injEq] at hg
      obtain ⟨hb, rfl, rfl⟩ := hg
      refine ⟨rfl, rfl, [slB 0 (bOf h b)], [farB (bOf h b)], .cons _ _ _ _ _ _ _ (bOk_canon hb 0) (.nil _), ?_⟩
      have hl := bOk_len hb
      rw [hn] at hl
      generalize bOf h b = l at hl
      obtain ⟨a, b, c, d, rfl⟩ := four_of hl
      exact Runs.valT0 (find_nil _) (F := 100) (n := 4) (pr := []) (nfAFrom4 a b c d _)
    · simp at hg
  · simp at hg

end Go.Proofs.Ythbneddbigclfaa.L

end

section
/- bazaar/bazaarref1.Valid. -/
set_option autoImplicit false
set_option maxRecDepth 100000
set_option linter.unusedVariables false
set_option linter.unusedSimpArgs false
namespace Go.Proofs.Ythbneddbigclfaa.L
open Go Go.Abs

end Go.Proofs.Ythbneddbigclfaa.L

end

section
/- bazaaralike's Round. -/
set_option autoImplicit false
set_option maxRecDepth 100000
set_option linter.unusedVariables false
namespace Go.Proofs.Ythbneddbigclfaa.L
open Go Go.Abs

def eRound : GEnt := fun args h => match args with
  | [.int .i64 k, .int .i64 n] => some (decide (0 < n ∧ n < 4611686018427387904), .int .i64 (k % n), h)
  | _ => none

theorem nfRound {R : Type} (k n : Int) (K : AV → Option R) : abody Try.prog (deepC Try.prog [] 100 4) (mixLS [] (autoLS Try.prog (deepC Try.prog [] 100 4) 100 4 (bodyOf Try.prog 12))) 12 [.int .i64 k, .int .i64 n] [] (fun v _ => K v) =
 if n = 0 then none else if n = 0 then none else K (.int .i64 ((IntKind.i64.wrap (k.tmod n + n)).tmod n)) := by
  kernel_rfl

theorem round_eq {k n : Int} (h : 0 < n ∧ n < 4611686018427387904) : (IntKind.i64.wrap (k.tmod n + n)).tmod n = k % n := by
  have hd := Int.tmod_eq_emod (a := k) (b := n)
  have he := Int.emod_nonneg k (show n ≠ 0 by omega)
  have hl := Int.emod_lt_of_pos k h.1
  have hn : ((n.natAbs : Nat) : Int) = n := by omega
  split at hd
  · rw [hd, wrapI64 (by omega), Int.tmod_eq_emod_of_nonneg (by omega), Int.add_emod_right, Int.sub_emod]
    simp
  · rw [hd, hn, wrapI64 (by omega), Int.tmod_eq_emod_of_nonneg (by omega), Int.sub_add_cancel, Int.emod_emod]

theorem sRound : SoundE Try.prog 12 (entF eRound) := by
  refine canonV_sound fun args h v h' hg => ?_
  unfold eRound at hg
  split at hg
  · rename_i k n
    simp only [Option.some.injEq, Prod.mk.injEq, decide_eq_true_eq] at hg
    obtain ⟨hn, rfl, rfl⟩ := hg
    refine ⟨rfl, rfl, [.int .i64 k, .int .i64 n], [], .cons _ _ _ _ _ _ _ (.flat _ _ rfl) (.cons _ _ _ _ _ _ _ (.flat _ _ rfl) (.nil _)), ?_⟩
    refine Runs.val0 (find_nil _) (F := 100) (n := 4) ?_
    rw [nfRound, if_neg (by omega), if_neg (by omega), round_eq hn]
  · simp at hg

end Go.Proofs.Ythbneddbigclfaa.L

end

section
/- A flow, a server of so many. -/
set_option autoImplicit false
set_option maxRecDepth 100000
set_option linter.unusedVariables false
set_option linter.unusedSimpArgs false
namespace Go.Proofs.Ythbneddbigclfaa.L
open Go Go.Abs

end Go.Proofs.Ythbneddbigclfaa.L

namespace Go.Abs

end Go.Abs

end

section
/- IPv4's packets. -/
set_option autoImplicit false
set_option linter.unusedVariables false
set_option linter.unusedSimpArgs false
namespace Go.Abs

end Go.Abs

end

section
/- Flows' and servers' bytes; packets that are made. -/
set_option autoImplicit false
set_option linter.unusedVariables false
set_option linter.unusedSimpArgs false
namespace Go.Abs

end Go.Abs

end
