/- Texts that stand together: PutKit, AddrKit, FourKit, SixKit, SegKit, ABytes, RBytes, RFrom, AFrom, RValid, Round, KeyDip, Pk4Kit, PktKit. -/
import Derived.Test.YtnchnjkakddhlaaBase
import Derived.Test.YtnchnjkakddhlaaProg
section
/- Numbers put into bytes. -/
set_option autoImplicit false
set_option linter.unusedVariables false
set_option linter.unusedSimpArgs false
namespace Go.Abs
variable {P : Program}

def bigR (v : Int) : Nat → List UInt8
  | 0 => []
  | n + 1 => u8i (v.fdiv (256 ^ n)) :: bigR v n
@[simp] theorem bigR_length (v : Int) : ∀ n, (bigR v n).length = n
  | 0 => rfl
  | n + 1 => by simp [bigR, bigR_length v n]

theorem bigR_snoc (v : Int) : ∀ n, bigR v (n + 1) = bigR (v.fdiv 256) n ++ [u8i v]
  | 0 => by simp [bigR]
  | n + 1 => by
    rw [bigR, bigR_snoc v n, bigR]
    have hp : (0 : Int) < 256 ^ n := Int.pow_pos (by omega)
    rw [List.cons_append]
    congr 2
    rw [Int.fdiv_eq_ediv_of_nonneg _ (by rw [Int.pow_succ]; omega), Int.fdiv_eq_ediv_of_nonneg _ (by omega), Int.fdiv_eq_ediv_of_nonneg _ (by omega), Int.pow_succ, Int.mul_comm, Int.ediv_ediv, if_neg (by omega), Int.sub_zero]

def setsDown : List UInt8 → Nat → Nat → Int → List UInt8
  | l, _, 0, _ => l
  | l, p, n + 1, v => setsDown (l.set (p + n) (u8i v)) p n (v.fdiv 256)
theorem setsDown_eq : ∀ (n : Nat) (l : List UInt8) (p : Nat) (v : Int), p + n ≤ l.length → setsDown l p n v = l.take p ++ bigR v n ++ l.drop (p + n)
  | 0, l, p, v, h => by simp [setsDown, bigR]
  | n + 1, l, p, v, h => by
    rw [setsDown, setsDown_eq n _ p _ (by simp; omega), bigR_snoc]
    have e1 : (l.set (p + n) (u8i v)).take p = l.take p := by rw [List.take_set_of_le (by omega)]
    have e2 : (l.set (p + n) (u8i v)).drop (p + n) = u8i v :: l.drop (p + (n + 1)) := by
      rw [List.drop_set, if_neg (by omega), Nat.sub_self, List.drop_eq_getElem_cons (by omega)]
      rfl
    rw [e1, e2]
    simp

def putR (l : List UInt8) (p : Int) (sz : Nat) (v : Int) : List UInt8 := if 0 ≤ p ∧ p + sz ≤ (l.length : Int) then l.take p.toNat ++ bigR v sz ++ l.drop (p.toNat + sz) else l
@[simp] theorem putR_length (l : List UInt8) (p : Int) (sz : Nat) (v : Int) : (putR l p sz v).length = l.length := by
  unfold putR
  split
  · simp; omega
  · rfl

@[simp] theorem intV_some (k : IntKind) (n : Int) : intV (some (.int k n)) = n := rfl
@[simp] theorem boolV_some (b : Bool) : boolV (some (.bool b)) = b := rfl
@[simp] theorem isIntV_some (k : IntKind) (n : Int) : isIntV k (some (.int k n)) = true := by simp [isIntV]
theorem putCells_u8 (l : List UInt8) (o : Nat) (x : UInt8) : putCells (bys l) o [.int .u8 ((x.toNat : Nat) : Int)] = bys (l.set o x) := by simp [putCells, bys, List.map_set]
theorem bys_full (l : List UInt8) : List.take (l.length * 1) (bys l) = bys l := by simp

@[simp] theorem byteD_u8 (k : IntKind) (x : UInt8) : byteD (.int k ((x.toNat : Nat) : Int)) = x := by simp [byteD]
theorem bigR8_2 (v : Int) : bigR v 2 = [u8i (v.fdiv 256), u8i (v.fdiv 1)] := rfl
def setsUp : List UInt8 → Nat → List UInt8 → List UInt8
  | l, _, [] => l
  | l, p, x :: xs => setsUp (l.set p x) (p + 1) xs
theorem setsUp_eq : ∀ (xs l : List UInt8) (p : Nat), p + xs.length ≤ l.length → setsUp l p xs = l.take p ++ xs ++ l.drop (p + xs.length)
  | [], l, p, h => by simp [setsUp]
  | x :: xs, l, p, h => by
    simp only [List.length_cons] at h
    rw [setsUp, setsUp_eq xs _ _ (by simp; omega)]
    have e1 : (l.set p x).take (p + 1) = l.take p ++ [x] := by
      rw [List.set_eq_take_append_cons_drop, if_pos (by omega), List.take_append, List.take_of_length_le (by simp; omega)]
      have : (List.take p l).length = p := by simp; omega
      rw [this]; simp
    have e2 : (l.set p x).drop (p + 1 + xs.length) = l.drop (p + (x :: xs).length) := by
      rw [List.drop_set, if_pos (by omega)]
      congr 1; simp; omega
    rw [e1, e2]; simp

theorem putA (q i : Nat) (j : Int) (hj : j = i) (hq : q ≤ 1000000000000) (hi : i ≤ 8) : IntKind.i64.wrap ((q : Int) + j) = ((q + i : Nat) : Int) := by
  subst hj
  rw [wrapI64 (by omega)]; omega
theorem putB (q i : Nat) : 0 + ((q + i : Nat) : Int).toNat * 1 = q + i := by omega

theorem posOf1 {i k j : Nat} (h : posOf [i] k = some j) : k = i ∧ j = 0 := by
  simp only [posOf] at h
  split at h
  · rename_i e; simp at h; exact ⟨e.symm, h.symm⟩
  · simp at h

theorem frame_one {f : FuncId} {args : Nat → List AV} {h : AHeap} {i : Nat} {vs vs' : List AV} {e : Nat} {par : Option Nat} {v : AV} (hb : h[i]? = some (.cells vs e .own par)) (hpar : par ≠ some i)
    (ha : ∀ i ρ, ρ i = some 0 → ARs ρ (args i) (args 0)) (hr : Runs P f (args 0) [.cells vs e .own none] v [.cells vs' e .own none]) (hf : AV.frees vs' = true) (hv : v.free = true) (hfv : AV.frees vs = true := by first | rfl | simp) :
    ∃ q, Frames P f (args i) (killp h q) v ((killp h par).set i (.cells vs' e .own none)) := by
  have hi := (List.getElem?_eq_some_iff.1 hb).1
  have hb2 : (killp h par)[i]? = some (.cells vs e .own par) := by rw [killp_get_ne hpar]; exact hb
  refine ⟨par, [i], [], args 0, [.cells vs e .own none], v, [.cells vs' e .own none], [.cells vs' e .own none], [], by simp, by simp, by simp, ha _ _ (by simp [posOf]), ?_, ?_, hr, ?_, .nil, .free _ hv, by simp [setAll]⟩
  · exact .cons _ _ _ _ _ hb2 (.cells _ _ _ _ _ _ (.free _ hfv) fun p j hp hq => by
      obtain ⟨rfl, rfl⟩ := posOf1 hq
      exact absurd hp hpar) .nil
  · intro k hk b hb'
    simp only [List.mem_singleton] at hk
    subst hk
    rw [hb2] at hb'; cases hb'
    refine ⟨rfl, fun q c hq hc => ?_⟩
    simp only [ABlk.par] at hq
    subst hq
    rw [killp, List.getElem?_set] at hc
    split at hc
    · split at hc
      · cases hc; rfl
      · simp at hc
    · rename_i hne; exact absurd rfl hne
  · exact .cons _ _ _ _ _ rfl (.row hf (by simp)) .nil

end Go.Abs

end

section
/- Addresses as values; bytes at places. -/
set_option autoImplicit false
set_option linter.unusedVariables false
set_option linter.unusedSimpArgs false
namespace Go.Abs
variable {P : Program}

def adrV (v : Bool) (x0 x1 x2 x3 x4 x5 x6 x7 x8 x9 x10 x11 x12 x13 x14 x15 : Int) : List AV :=
  [.bool v, .int .u8 x0, .int .u8 x1, .int .u8 x2, .int .u8 x3, .int .u8 x4, .int .u8 x5, .int .u8 x6, .int .u8 x7, .int .u8 x8, .int .u8 x9, .int .u8 x10, .int .u8 x11, .int .u8 x12, .int .u8 x13, .int .u8 x14, .int .u8 x15]
def adr16 (l : List UInt8) (p : Nat) : List AV := adrV true (byt l p) (byt l (p + 1)) (byt l (p + 2)) (byt l (p + 3)) (byt l (p + 4)) (byt l (p + 5)) (byt l (p + 6)) (byt l (p + 7)) (byt l (p + 8)) (byt l (p + 9)) (byt l (p + 10)) (byt l (p + 11)) (byt l (p + 12)) (byt l (p + 13)) (byt l (p + 14)) (byt l (p + 15))
def adr4 (l : List UInt8) (p : Nat) : List AV := adrV false (byt l p) (byt l (p + 1)) (byt l (p + 2)) (byt l (p + 3)) 0 0 0 0 0 0 0 0 0 0 0 0

mutual
@[simp] theorem AV.beq_self : ∀ a : AV, a.beq a = true
  | .any => rfl
  | .bool b => by simp [AV.beq]
  | .int k n => by simp [AV.beq]
  | .str s => by simp [AV.beq]
  | .ptr a => by simp [AV.beq]
  | .sl a l c e => by simp [AV.beq]
  | .map r => by simp [AV.beq]
  | .fn f c => by simp [AV.beq, AV.beqs_self c]
  | .nilFn => rfl
  | .agg l => by simp [AV.beq, AV.beqs_self l]
  | .tup l => by simp [AV.beq, AV.beqs_self l]
@[simp] theorem AV.beqs_self : ∀ l : List AV, AV.beqs l l = true
  | [] => rfl
  | a :: l => by simp [AV.beqs, AV.beq_self a, AV.beqs_self l]
end

theorem four_of {l : List UInt8} (h : l.length = 4) : ∃ a b c d, l = [a, b, c, d] := by
  match l, h with
  | [a, b, c, d], _ => exact ⟨a, b, c, d, rfl⟩
theorem sixteen_of {l : List UInt8} (h : l.length = 16) : ∃ a b c d e f g i j k m n o p q r, l = [a, b, c, d, e, f, g, i, j, k, m, n, o, p, q, r] := by
  match l, h with
  | [a, b, c, d, e, f, g, i, j, k, m, n, o, p, q, r], _ => exact ⟨a, b, c, d, e, f, g, i, j, k, m, n, o, p, q, r, rfl⟩

theorem byt_part {l : List UInt8} {p n i : Nat} (h : i < n) : byt ((l.drop p).take n) i = byt l (p + i) := by
  simp [byt, List.getD, List.getElem?_take, h]

def eFrom (ok bad : Int) : GEnt := fun args h => match args with
  | [b] => match nOf b with
    | 16 => some (bOk h b, .tup [.agg (adr16 (bOf h b) 0), .int .i64 ok], h)
    | 4 => some (bOk h b, .tup [.agg (adr4 (bOf h b) 0), .int .i64 ok], h)
    | _ => none
  | _ => none

def isZeroV : AV → Bool
  | .int _ n => decide (n = 0)
  | _ => false
@[simp] theorem isZeroV_int (k : IntKind) (n : Int) : isZeroV (.int k n) = decide (n = 0) := rfl

def adrWf : List AV → Bool
  | .bool _ :: xs => decide (xs.length = 16) && xs.all isByteR
  | _ => false
def adrBytes : List AV → List UInt8
  | .bool v :: xs => match v with
    | true => xs.map byteD
    | false => (xs.take 4).map byteD
  | _ => []
def adrValid : List AV → Bool
  | .bool v :: xs => match v with
    | true => true
    | false => (xs.drop 4).all isZeroV
  | _ => false

theorem isByteR_int {a : AV} (h : isByteR a = true) : ∃ x, a = .int .u8 x ∧ 0 ≤ x ∧ x < 256 := by
  unfold isByteR at h
  split at h
  · rename_i n; simp only [decide_eq_true_eq] at h; exact ⟨n, rfl, h⟩
  · simp at h

theorem adrWf_lit {cs : List AV} (h : adrWf cs = true) : ∃ v x0 x1 x2 x3 x4 x5 x6 x7 x8 x9 x10 x11 x12 x13 x14 x15, cs = adrV v x0 x1 x2 x3 x4 x5 x6 x7 x8 x9 x10 x11 x12 x13 x14 x15 ∧ (0 ≤ x0 ∧ x0 < 256) ∧ (0 ≤ x1 ∧ x1 < 256) ∧ (0 ≤ x2 ∧ x2 < 256) ∧ (0 ≤ x3 ∧ x3 < 256) ∧ (0 ≤ x4 ∧ x4 < 256) ∧ (0 ≤ x5 ∧ x5 < 256) ∧ (0 ≤ x6 ∧ x6 < 256) ∧ (0 ≤ x7 ∧ x7 < 256) ∧ (0 ≤ x8 ∧ x8 < 256) ∧ (0 ≤ x9 ∧ x9 < 256) ∧ (0 ≤ x10 ∧ x10 < 256) ∧ (0 ≤ x11 ∧ x11 < 256) ∧ (0 ≤ x12 ∧ x12 < 256) ∧ (0 ≤ x13 ∧ x13 < 256) ∧ (0 ≤ x14 ∧ x14 < 256) ∧ (0 ≤ x15 ∧ x15 < 256) := by
  unfold adrWf at h
  split at h
  · rename_i v l
    simp only [Bool.and_eq_true, decide_eq_true_eq] at h
    obtain ⟨hl, h⟩ := h
    match l, hl, h with
    | [a0, a1, a2, a3, a4, a5, a6, a7, a8, a9, a10, a11, a12, a13, a14, a15], _, h =>
      simp only [List.all_cons, List.all_nil, Bool.and_eq_true, and_true] at h
      obtain ⟨h0, h1, h2, h3, h4, h5, h6, h7, h8, h9, h10, h11, h12, h13, h14, h15⟩ := h
      obtain ⟨x0, rfl, b0⟩ := isByteR_int h0
      obtain ⟨x1, rfl, b1⟩ := isByteR_int h1
      obtain ⟨x2, rfl, b2⟩ := isByteR_int h2
      obtain ⟨x3, rfl, b3⟩ := isByteR_int h3
      obtain ⟨x4, rfl, b4⟩ := isByteR_int h4
      obtain ⟨x5, rfl, b5⟩ := isByteR_int h5
      obtain ⟨x6, rfl, b6⟩ := isByteR_int h6
      obtain ⟨x7, rfl, b7⟩ := isByteR_int h7
      obtain ⟨x8, rfl, b8⟩ := isByteR_int h8
      obtain ⟨x9, rfl, b9⟩ := isByteR_int h9
      obtain ⟨x10, rfl, b10⟩ := isByteR_int h10
      obtain ⟨x11, rfl, b11⟩ := isByteR_int h11
      obtain ⟨x12, rfl, b12⟩ := isByteR_int h12
      obtain ⟨x13, rfl, b13⟩ := isByteR_int h13
      obtain ⟨x14, rfl, b14⟩ := isByteR_int h14
      obtain ⟨x15, rfl, b15⟩ := isByteR_int h15
      exact ⟨v, x0, x1, x2, x3, x4, x5, x6, x7, x8, x9, x10, x11, x12, x13, x14, x15, rfl, b0, b1, b2, b3, b4, b5, b6, b7, b8, b9, b10, b11, b12, b13, b14, b15⟩
  · simp at h

def adrV6 : List AV → Bool
  | .bool v :: _ => v
  | _ => false
theorem adrWf_B {cs : List AV} (h : adrWf cs = true) : ∃ v X, cs = .bool v :: bys X ∧ X.length = 16 := by
  unfold adrWf at h
  split at h
  · rename_i v l
    simp only [Bool.and_eq_true, decide_eq_true_eq] at h
    exact ⟨v, l.map byteD, by rw [← bytes_of h.2], by simp [h.1]⟩
  · simp at h
theorem adrB_wf {v : Bool} {X : List UInt8} (h : X.length = 16) : adrWf (.bool v :: bys X) = true := by simp [adrWf, h]
theorem adrB_T (X : List UInt8) : adrBytes (.bool true :: bys X) = X := by simp [adrBytes]
theorem adrB_17 {v : Bool} {X : List UInt8} (h : X.length = 16) : List.take 17 (AV.bool v :: bys X) = AV.bool v :: bys X := List.take_of_length_le (by simp [h])
theorem adrB_16 {v : Bool} {X : List UInt8} (h : X.length = 16) : List.take 16 (List.drop 1 (AV.bool v :: bys X)) = bys X := by simp [← h]
theorem adrB_free {v : Bool} {X : List UInt8} : AV.free (.agg (.bool v :: bys X)) = true := by simp [AV.free, AV.frees]
def eBytes : GEnt := fun args h => match args with
  | [.agg cs] => some (adrWf cs, slB h.length (adrBytes cs), h ++ [ownB (adrBytes cs)])
  | _ => none
end Go.Abs

end

section
/- What the document says of IPv4's header. -/
set_option autoImplicit false
set_option linter.unusedVariables false
namespace Go.Abs

def s4 (l : List UInt8) : Int := byt l 0 % 16 * 4
def r4 (l : List UInt8) : Int :=
  if l.length < 20 then 1 else if byt l 0 / 16 ≠ 4 then 3 else if s4 l < 20 then 3 else if word l 2 < s4 l then 3 else if (l.length : Int) < word l 2 then 1 else if chkI (l.take (s4 l).toNat) ≠ 0 then 4
  else if word l 6 % 16384 ≠ 0 then 5 else if byt l 9 ≠ 6 ∧ byt l 9 ≠ 17 then 6 else 0
def z4 (l : List UInt8) (x : Int) : Int := if r4 l = 0 then x else 0
def adrZ4 (l : List UInt8) (p : Nat) : List AV := adrV false (z4 l (byt l p)) (z4 l (byt l (p + 1))) (z4 l (byt l (p + 2))) (z4 l (byt l (p + 3))) 0 0 0 0 0 0 0 0 0 0 0 0
def head4 (l : List UInt8) : List AV := [.int .i64 (z4 l (s4 l)), .int .i64 (z4 l (word l 2)), .int .u8 (z4 l (byt l 9))] ++ adrZ4 l 12 ++ adrZ4 l 16
def v4Read (l : List UInt8) : AV := .tup [.agg (head4 l), .int .i64 (r4 l)]

theorem byt_tk4 {l : List UInt8} {p n i : Nat} (h : i < n) : byt (List.take n (List.drop p l)) i = byt l (p + i) := byt_part h
theorem fdiv16' (x : Int) : x.fdiv 16 = x / 16 := Int.fdiv_eq_ediv_of_nonneg _ (by omega)

theorem and15 {n : Int} (h : 0 ≤ n ∧ n < 256) : abits .u8 (· &&& ·) n 15 = n % 16 := by
  obtain ⟨a, rfl⟩ := Int.eq_ofNat_of_zero_le h.1
  have h1 : (BitVec.ofInt 8 (15 : Int)).toNat = 15 := by decide
  have h2 := ofIntNat 8 a (by omega)
  show IntKind.u8.wrap ((BitVec.ofInt 8 (a : Int) &&& BitVec.ofInt 8 (15 : Int)).toNat : Int) = _
  rw [BitVec.toNat_and, h2, h1, show (15 : Nat) = 2 ^ 4 - 1 by rfl, Nat.and_two_pow_sub_one_eq_mod, wrapU8 (by omega)]
  omega
theorem and3f {n : Int} (h : 0 ≤ n ∧ n < 65536) : abits .u16 (· &&& ·) n 16383 = n % 16384 := by
  obtain ⟨a, rfl⟩ := Int.eq_ofNat_of_zero_le h.1
  have h1 : (BitVec.ofInt 16 (16383 : Int)).toNat = 16383 := by decide
  have h2 := ofIntNat 16 a (by omega)
  show IntKind.u16.wrap ((BitVec.ofInt 16 (a : Int) &&& BitVec.ofInt 16 (16383 : Int)).toNat : Int) = _
  rw [BitVec.toNat_and, h2, h1, show (16383 : Nat) = 2 ^ 14 - 1 by rfl, Nat.and_two_pow_sub_one_eq_mod, wrapU16 (by omega)]
  omega
theorem and3fi {n : Int} (h : 0 ≤ n ∧ n < 65536) : abits .i64 (· &&& ·) n 16383 = n % 16384 := by
  obtain ⟨a, rfl⟩ := Int.eq_ofNat_of_zero_le h.1
  have h1 : (BitVec.ofInt 64 (16383 : Int)).toNat = 16383 := by decide
  have h2 := ofIntNat 64 a (by omega)
  show IntKind.i64.wrap ((BitVec.ofInt 64 (a : Int) &&& BitVec.ofInt 64 (16383 : Int)).toNat : Int) = _
  rw [BitVec.toNat_and, h2, h1, show (16383 : Nat) = 2 ^ 14 - 1 by rfl, Nat.and_two_pow_sub_one_eq_mod, wrapI64 (by omega)]
  omega

def adr4c (a b c d : UInt8) (X : List AV) : List AV := .int .u8 ((a.toNat : Nat) : Int) :: .int .u8 ((b.toNat : Nat) : Int) :: .int .u8 ((c.toNat : Nat) : Int) :: .int .u8 ((d.toNat : Nat) : Int) :: X
theorem adr4_lit {X : List UInt8} (h : X.length = 16) : ∃ a b c d Y, bys X = adr4c a b c d (bys Y) ∧ X = a :: b :: c :: d :: Y ∧ Y.length = 12 := by
  match X, h with
  | a :: b :: c :: d :: Y, h => exact ⟨a, b, c, d, Y, rfl, rfl, by simpa using h⟩

theorem r4_len {l : List UInt8} (h : r4 l = 0) : 20 ≤ l.length := by
  unfold r4 at h
  split at h
  · omega
  · omega
def c4 (l T : List UInt8) : Int := changeI (word l 10) ((l.drop 16).take 4) T
def dest4 (l : List UInt8) (cs : List AV) : List UInt8 := if r4 l = 0 ∧ adrV6 cs = false then setsUp (setsUp l 10 (bigR (c4 l (adrBytes cs)) 2)) 16 (adrBytes cs) else []
def eDst4 : GEnt := fun args h => match args with
  | [b, .agg cs] => some (bOk h b && (adrWf cs && decide (nOf b ≤ 1000000000000)), slB h.length (dest4 (bOf h b) cs), h ++ [ownB (dest4 (bOf h b) cs)])
  | _ => none
theorem dest4_N {l : List UInt8} {cs : List AV} (h : r4 l ≠ 0 ∨ adrV6 cs = true) : dest4 l cs = [] := by
  unfold dest4; rw [if_neg]; rintro ⟨h1, h2⟩
  rcases h with h | h
  · exact h h1
  · rw [h] at h2; simp at h2
theorem adr4_facts {a b c d : UInt8} {Y : List UInt8} (hY : Y.length = 12) :
    List.take 17 (AV.bool false :: .int .u8 ((a.toNat : Nat) : Int) :: .int .u8 ((b.toNat : Nat) : Int) :: .int .u8 ((c.toNat : Nat) : Int) :: .int .u8 ((d.toNat : Nat) : Int) :: bys Y) = AV.bool false :: .int .u8 ((a.toNat : Nat) : Int) :: .int .u8 ((b.toNat : Nat) : Int) :: .int .u8 ((c.toNat : Nat) : Int) :: .int .u8 ((d.toNat : Nat) : Int) :: bys Y ∧
    adrWf (AV.bool false :: .int .u8 ((a.toNat : Nat) : Int) :: .int .u8 ((b.toNat : Nat) : Int) :: .int .u8 ((c.toNat : Nat) : Int) :: .int .u8 ((d.toNat : Nat) : Int) :: bys Y) = true ∧
    adrBytes (AV.bool false :: .int .u8 ((a.toNat : Nat) : Int) :: .int .u8 ((b.toNat : Nat) : Int) :: .int .u8 ((c.toNat : Nat) : Int) :: .int .u8 ((d.toNat : Nat) : Int) :: bys Y) = [a, b, c, d] := by
  refine ⟨List.take_of_length_le (by simp [hY]), ?_, ?_⟩
  · exact adrB_wf (X := a :: b :: c :: d :: Y) (by simp [hY])
  · show [byteD (.int .u8 ((a.toNat : Nat) : Int)), byteD (.int .u8 ((b.toNat : Nat) : Int)), byteD (.int .u8 ((c.toNat : Nat) : Int)), byteD (.int .u8 ((d.toNat : Nat) : Int))] = _
    simp only [byteD_u8]
theorem setsUp_length : ∀ (xs l : List UInt8) (p : Nat), (setsUp l p xs).length = l.length
  | [], _, _ => rfl
  | x :: xs, l, p => by rw [setsUp, setsUp_length xs]; simp
theorem putCells_up (xs l : List UInt8) (o : Nat) (h : o + xs.length ≤ l.length) : putCells (bys l) o (bys xs) = bys (setsUp l o xs) := by rw [putCells_bytes _ _ _ h, setsUp_eq _ _ _ h]
theorem putR_up (l : List UInt8) (p sz : Nat) (v : Int) (h : p + sz ≤ l.length) : putR l p sz v = setsUp l p (bigR v sz) := by
  rw [setsUp_eq _ _ _ (by simp; omega), putR, if_pos (by omega)]; simp

def makes4 (cs ds : List AV) (n : Int) : Prop := adrV6 cs = false ∧ adrV6 ds = false ∧ 0 ≤ n ∧ n ≤ 65515
instance (cs ds : List AV) (n : Int) : Decidable (makes4 cs ds n) := by unfold makes4; infer_instance
end Go.Abs

end

section
/- What the document says of IPv6's header. -/
set_option autoImplicit false
set_option linter.unusedVariables false
namespace Go.Abs

def r6 (l : List UInt8) : Int :=
  if l.length < 40 then 1 else if byt l 0 / 16 ≠ 6 then 3 else if (l.length : Int) < 40 + word l 4 then 1 else if byt l 6 = 44 then 5 else if byt l 6 ≠ 6 ∧ byt l 6 ≠ 17 then 6 else 0
def z6 (l : List UInt8) (x : Int) : Int := if r6 l = 0 then x else 0
def adrZ6 (l : List UInt8) (p : Nat) : List AV := adrV (decide (r6 l = 0)) (z6 l (byt l p)) (z6 l (byt l (p + 1))) (z6 l (byt l (p + 2))) (z6 l (byt l (p + 3))) (z6 l (byt l (p + 4))) (z6 l (byt l (p + 5))) (z6 l (byt l (p + 6))) (z6 l (byt l (p + 7)))
  (z6 l (byt l (p + 8))) (z6 l (byt l (p + 9))) (z6 l (byt l (p + 10))) (z6 l (byt l (p + 11))) (z6 l (byt l (p + 12))) (z6 l (byt l (p + 13))) (z6 l (byt l (p + 14))) (z6 l (byt l (p + 15)))
def head6 (l : List UInt8) : List AV := [.int .i64 (z6 l (40 + word l 4)), .int .u8 (z6 l (byt l 6))] ++ adrZ6 l 8 ++ adrZ6 l 24
def v6Read (l : List UInt8) : AV := .tup [.agg (head6 l), .int .i64 (r6 l)]
def v6RRead (l : List UInt8) : AV := .tup [.agg (.int .i64 (z6 l 40) :: head6 l), .int .i64 (r6 l)]

theorem byt_tk {l : List UInt8} {p n i : Nat} (h : i < n) : byt (List.take n (List.drop p l)) i = byt l (p + i) := byt_part h
theorem capOf_f (l c : Nat) : capOf l c false = l + c := rfl

theorem fdiv16 (x : Int) : x.fdiv 16 = x / 16 := Int.fdiv_eq_ediv_of_nonneg _ (by omega)

theorem r6_len {l : List UInt8} (h : r6 l = 0) : 40 ≤ l.length := by
  unfold r6 at h
  split at h
  · omega
  · omega
def dest6 (l : List UInt8) (cs : List AV) : List UInt8 := if r6 l = 0 ∧ adrV6 cs = true then l.take 24 ++ adrBytes cs ++ l.drop 40 else []
def makes6 (cs ds : List AV) (n : Int) : Prop := adrV6 cs = true ∧ adrV6 ds = true ∧ 0 ≤ n ∧ n ≤ 65535
instance (cs ds : List AV) (n : Int) : Decidable (makes6 cs ds n) := by unfold makes6; infer_instance
def eDst6 : GEnt := fun args h => match args with
  | [b, .agg cs] => some (bOk h b && (adrWf cs && decide (nOf b ≤ 1000000000000)), slB h.length (dest6 (bOf h b) cs), h ++ [ownB (dest6 (bOf h b) cs)])
  | _ => none
end Go.Abs

end

section
/- What the document says of TCP's and UDP's segments. -/
set_option autoImplicit false
set_option linter.unusedVariables false
namespace Go.Abs

theorem fdiv16s (x : Int) : x.fdiv 16 = x / 16 := Int.fdiv_eq_ediv_of_nonneg _ (by omega)
def segR (p : Int) (l : List UInt8) : Int :=
  if p = 6 then (if l.length < 20 then 1 else if byt l 12 / 16 * 4 < 20 then 3 else if (l.length : Int) < byt l 12 / 16 * 4 then 3 else 0)
  else if p = 17 then (if l.length < 8 then 1 else if word l 4 < 8 then 3 else if (l.length : Int) < word l 4 then 3 else 0)
  else 6
def segZ (p : Int) (l : List UInt8) (x : Int) : Int := if segR p l = 0 then x else 0
def segF (p : Int) (l : List UInt8) : Int := if p = 6 then segZ p l (byt l 13) else 0
def segRead (p : Int) (l : List UInt8) : AV := .tup [.agg [.int .u16 (segZ p l (word l 0)), .int .u16 (segZ p l (word l 2)), .int .u8 (segF p l)], .int .i64 (segR p l)]
def segRRead (p : Int) (l : List UInt8) : AV := .tup [.agg [.int .i64 (segZ p l (word l 0)), .int .i64 (segZ p l (word l 2)), .int .u8 (segF p l)], .int .i64 (segR p l)]
theorem segR_len {p : Int} {l : List UInt8} (h : segR p l = 0) : (p = 6 ∧ 20 ≤ l.length) ∨ (p = 17 ∧ 8 ≤ l.length) := by
  unfold segR at h
  split at h
  · split at h
    · omega
    · exact .inl ⟨by assumption, by omega⟩
  · split at h
    · split at h
      · omega
      · exact .inr ⟨by assumption, by omega⟩
    · omega
def eSegR : GEnt := fun args h => match args with
  | [.int .u8 p, b] => some (bOk h b && decide (nOf b ≤ 1000000000000), segRead p (bOf h b), h)
  | _ => none
def eRSegR : GEnt := fun args h => match args with
  | [.int .u8 p, b] => some (bOk h b && decide (nOf b ≤ 1000000000000), segRRead p (bOf h b), h)
  | _ => none

def portAt (p : Int) : Nat := if p = 6 then 16 else 6
def portC (p : Int) (l : List UInt8) (to : Int) (A B : List UInt8) : Int := changeI (updI (word l (portAt p)) (word l 2) to) A B
def portL (p : Int) (l : List UInt8) (to : Int) (cs ds : List AV) : List UInt8 :=
  if segR p l = 0 ∧ adrV6 cs = adrV6 ds then
    (if p = 17 ∧ word l 6 = 0 then putR l 2 2 to
     else putR (putR l 2 2 to) (portAt p : Int) 2 (if p = 17 ∧ portC p l to (adrBytes cs) (adrBytes ds) = 0 then 65535 else portC p l to (adrBytes cs) (adrBytes ds)))
  else []
theorem portL_N {p : Int} {l : List UInt8} {to : Int} {cs ds : List AV} (h : segR p l ≠ 0 ∨ adrV6 cs ≠ adrV6 ds) : portL p l to cs ds = [] := by
  unfold portL; rw [if_neg]; rintro ⟨h1, h2⟩
  rcases h with h | h
  · exact h h1
  · exact h h2
theorem portL_length {p : Int} {l : List UInt8} {to : Int} {cs ds : List AV} (h : segR p l = 0 ∧ adrV6 cs = adrV6 ds) : (portL p l to cs ds).length = l.length := by
  unfold portL; rw [if_pos h]
  split
  · exact putR_length _ _ _ _
  · rw [putR_length, putR_length]
def ePort : GEnt := fun args h => match args with
  | [.int .u8 p, b, .int .u16 to, .agg cs, .agg ds] => some (bOk h b && (adrWf cs && (adrWf ds && decide (nOf b ≤ 1000000000000 ∧ 0 ≤ to ∧ to < 65536))), slB h.length (portL p (bOf h b) to cs ds), h ++ [ownB (portL p (bOf h b) to cs ds)])
  | _ => none
def eRPort : GEnt := fun args h => match args with
  | [.int .u8 p, b, .int .i64 to, .agg cs, .agg ds] => some (bOk h b && (adrWf cs && (adrWf ds && decide (nOf b ≤ 1000000000000 ∧ 0 ≤ to ∧ to < 65536))), slB h.length (portL p (bOf h b) to cs ds), h ++ [ownB (portL p (bOf h b) to cs ds)])
  | _ => none
theorem segRead_N {p r : Int} {l : List UInt8} (h : segR p l = r) (h0 : r ≠ 0) : segRead p l = .tup [.agg [.int .u16 0, .int .u16 0, .int .u8 0], .int .i64 r] ∧ segRRead p l = .tup [.agg [.int .i64 0, .int .i64 0, .int .u8 0], .int .i64 r] := by
  have hf : segF p l = 0 := by unfold segF segZ; rw [h, if_neg h0]; split <;> rfl
  have hz : ∀ x, segZ p l x = 0 := fun x => by unfold segZ; rw [h, if_neg h0]
  unfold segRead segRRead
  rw [hf, hz, hz, h]; exact ⟨rfl, rfl⟩
theorem segRead_Y {p : Int} {l : List UInt8} (h : segR p l = 0) : segRead p l = .tup [.agg [.int .u16 (word l 0), .int .u16 (word l 2), .int .u8 (segF p l)], .int .i64 0] ∧ segRRead p l = .tup [.agg [.int .i64 (word l 0), .int .i64 (word l 2), .int .u8 (segF p l)], .int .i64 0] := by
  have hz : ∀ x, segZ p l x = x := fun x => by unfold segZ; rw [if_pos h]
  unfold segRead segRRead
  rw [hz, hz, h]; exact ⟨rfl, rfl⟩

end Go.Abs

end

section
/- bazaar/addr.Bytes. -/
set_option autoImplicit false
set_option maxRecDepth 100000
set_option linter.unusedVariables false
set_option linter.unusedSimpArgs false
namespace Go.Proofs.Ytnchnjkakddhlaa.L
open Go Go.Abs

noncomputable def hABytesT0 (x0 x1 x2 x3 x4 x5 x6 x7 x8 x9 x10 x11 x12 x13 x14 x15 : Int) : AHeap := [ABlk.cells [AV.bool true, AV.int IntKind.u8 x0, AV.int IntKind.u8 x1, AV.int IntKind.u8 x2, AV.int IntKind.u8 x3, AV.int IntKind.u8 x4, AV.int IntKind.u8 x5, AV.int IntKind.u8 x6, AV.int IntKind.u8 x7, AV.int IntKind.u8 x8, AV.int IntKind.u8 x9, AV.int IntKind.u8 x10, AV.int IntKind.u8 x11, AV.int IntKind.u8 x12, AV.int IntKind.u8 x13, AV.int IntKind.u8 x14, AV.int IntKind.u8 x15] 17 Md.own none, ABlk.cells [] 1 Md.ro none, ABlk.cells [AV.int IntKind.u8 x0, AV.int IntKind.u8 x1, AV.int IntKind.u8 x2, AV.int IntKind.u8 x3, AV.int IntKind.u8 x4, AV.int IntKind.u8 x5, AV.int IntKind.u8 x6, AV.int IntKind.u8 x7, AV.int IntKind.u8 x8, AV.int IntKind.u8 x9, AV.int IntKind.u8 x10, AV.int IntKind.u8 x11, AV.int IntKind.u8 x12, AV.int IntKind.u8 x13, AV.int IntKind.u8 x14, AV.int IntKind.u8 x15] 1 Md.own (some 1)]
theorem nfABytesT {R : Type} (x0 x1 x2 x3 x4 x5 x6 x7 x8 x9 x10 x11 x12 x13 x14 x15 : Int) (K : AV → AHeap → Option R) :
 qrun Try.prog [] 100 6 [] [] 46 [.agg (adrV true x0 x1 x2 x3 x4 x5 x6 x7 x8 x9 x10 x11 x12 x13 x14 x15)] [] K =
 K (AV.sl (some (2, 0)) 16 0 false) ((hABytesT0 x0 x1 x2 x3 x4 x5 x6 x7 x8 x9 x10 x11 x12 x13 x14 x15)) := by
  kernel_rfl

noncomputable def hABytesF0 (x0 x1 x2 x3 x4 x5 x6 x7 x8 x9 x10 x11 x12 x13 x14 x15 : Int) : AHeap := [ABlk.cells [AV.bool false, AV.int IntKind.u8 x0, AV.int IntKind.u8 x1, AV.int IntKind.u8 x2, AV.int IntKind.u8 x3, AV.int IntKind.u8 x4, AV.int IntKind.u8 x5, AV.int IntKind.u8 x6, AV.int IntKind.u8 x7, AV.int IntKind.u8 x8, AV.int IntKind.u8 x9, AV.int IntKind.u8 x10, AV.int IntKind.u8 x11, AV.int IntKind.u8 x12, AV.int IntKind.u8 x13, AV.int IntKind.u8 x14, AV.int IntKind.u8 x15] 17 Md.own none, ABlk.cells [] 1 Md.ro none, ABlk.cells [AV.int IntKind.u8 x0, AV.int IntKind.u8 x1, AV.int IntKind.u8 x2, AV.int IntKind.u8 x3] 1 Md.own (some 1)]
theorem nfABytesF {R : Type} (x0 x1 x2 x3 x4 x5 x6 x7 x8 x9 x10 x11 x12 x13 x14 x15 : Int) (K : AV → AHeap → Option R) :
 qrun Try.prog [] 100 6 [] [] 46 [.agg (adrV false x0 x1 x2 x3 x4 x5 x6 x7 x8 x9 x10 x11 x12 x13 x14 x15)] [] K =
 K (AV.sl (some (2, 0)) 4 0 false) ((hABytesF0 x0 x1 x2 x3 x4 x5 x6 x7 x8 x9 x10 x11 x12 x13 x14 x15)) := by
  kernel_rfl


theorem sABytes : SoundE Try.prog 46 (entF eBytes) := by
  refine canonR_sound fun args h v h' hg => ?_
  unfold eBytes at hg
  split at hg
  · rename_i cs
    simp only [Option.some.injEq, Prod.mk.injEq] at hg
    obtain ⟨hw, rfl, rfl⟩ := hg
    obtain ⟨v, x0, x1, x2, x3, x4, x5, x6, x7, x8, x9, x10, x11, x12, x13, x14, x15, rfl, b0, b1, b2, b3, b4, b5, b6, b7, b8, b9, b10, b11, b12, b13, b14, b15⟩ := adrWf_lit hw
    refine ⟨[.agg (adrV v x0 x1 x2 x3 x4 x5 x6 x7 x8 x9 x10 x11 x12 x13 x14 x15)], [], .cons _ _ _ _ _ _ _ (.flat _ _ rfl) (.nil _), ?_⟩
    cases v
    · refine ⟨_, _, Runs.ofT0 (find_nil _) (F := 100) (n := 6) (pr := []) (nfABytesF x0 x1 x2 x3 x4 x5 x6 x7 x8 x9 x10 x11 x12 x13 x14 x15 _), [some 2], _, rfl, denB (by simp) rfl (show [.int .u8 x0, .int .u8 x1, .int .u8 x2, .int .u8 x3] = bys [byteD (.int .u8 x0), byteD (.int .u8 x1), byteD (.int .u8 x2), byteD (.int .u8 x3)] from bytes_of (l := [.int .u8 x0, .int .u8 x1, .int .u8 x2, .int .u8 x3]) (by simp [isByteR]; omega)) rfl, ksOk1 _⟩
    · refine ⟨_, _, Runs.ofT0 (find_nil _) (F := 100) (n := 6) (pr := []) (nfABytesT x0 x1 x2 x3 x4 x5 x6 x7 x8 x9 x10 x11 x12 x13 x14 x15 _), [some 2], _, rfl, denB (by simp) rfl (show [.int .u8 x0, .int .u8 x1, .int .u8 x2, .int .u8 x3, .int .u8 x4, .int .u8 x5, .int .u8 x6, .int .u8 x7, .int .u8 x8, .int .u8 x9, .int .u8 x10, .int .u8 x11, .int .u8 x12, .int .u8 x13, .int .u8 x14, .int .u8 x15] = bys [byteD (.int .u8 x0), byteD (.int .u8 x1), byteD (.int .u8 x2), byteD (.int .u8 x3), byteD (.int .u8 x4), byteD (.int .u8 x5), byteD (.int .u8 x6), byteD (.int .u8 x7), byteD (.int .u8 x8), byteD (.int .u8 x9), byteD (.int .u8 x10), byteD (.int .u8 x11), byteD (.int .u8 x12), byteD (.int .u8 x13), byteD (.int .u8 x14), byteD (.int .u8 x15)] from bytes_of (l := [.int .u8 x0, .int .u8 x1, .int .u8 x2, .int .u8 x3, .int .u8 x4, .int .u8 x5, .int .u8 x6, .int .u8 x7, .int .u8 x8, .int .u8 x9, .int .u8 x10, .int .u8 x11, .int .u8 x12, .int .u8 x13, .int .u8 x14, .int .u8 x15]) (by simp [isByteR]; omega)) rfl, ksOk1 _⟩
  · simp at hg

end Go.Proofs.Ytnchnjkakddhlaa.L

end

section
/- bazaar/bazaarref1.Bytes. -/
set_option autoImplicit false
set_option maxRecDepth 100000
set_option linter.unusedVariables false
set_option linter.unusedSimpArgs false
namespace Go.Proofs.Ytnchnjkakddhlaa.L
open Go Go.Abs

noncomputable def hRBytesT0 (x0 x1 x2 x3 x4 x5 x6 x7 x8 x9 x10 x11 x12 x13 x14 x15 : Int) : AHeap := [ABlk.cells [AV.bool true, AV.int IntKind.u8 x0, AV.int IntKind.u8 x1, AV.int IntKind.u8 x2, AV.int IntKind.u8 x3, AV.int IntKind.u8 x4, AV.int IntKind.u8 x5, AV.int IntKind.u8 x6, AV.int IntKind.u8 x7, AV.int IntKind.u8 x8, AV.int IntKind.u8 x9, AV.int IntKind.u8 x10, AV.int IntKind.u8 x11, AV.int IntKind.u8 x12, AV.int IntKind.u8 x13, AV.int IntKind.u8 x14, AV.int IntKind.u8 x15] 17 Md.own none, ABlk.cells [] 1 Md.ro none, ABlk.cells [AV.int IntKind.u8 x0, AV.int IntKind.u8 x1, AV.int IntKind.u8 x2, AV.int IntKind.u8 x3, AV.int IntKind.u8 x4, AV.int IntKind.u8 x5, AV.int IntKind.u8 x6, AV.int IntKind.u8 x7, AV.int IntKind.u8 x8, AV.int IntKind.u8 x9, AV.int IntKind.u8 x10, AV.int IntKind.u8 x11, AV.int IntKind.u8 x12, AV.int IntKind.u8 x13, AV.int IntKind.u8 x14, AV.int IntKind.u8 x15] 1 Md.own (some 1)]
theorem nfRBytesT {R : Type} (x0 x1 x2 x3 x4 x5 x6 x7 x8 x9 x10 x11 x12 x13 x14 x15 : Int) (K : AV → AHeap → Option R) :
 qrun Try.prog [] 100 6 [] [] 29 [.agg (adrV true x0 x1 x2 x3 x4 x5 x6 x7 x8 x9 x10 x11 x12 x13 x14 x15)] [] K =
 K (AV.sl (some (2, 0)) 16 0 false) ((hRBytesT0 x0 x1 x2 x3 x4 x5 x6 x7 x8 x9 x10 x11 x12 x13 x14 x15)) := by
  kernel_rfl

noncomputable def hRBytesF0 (x0 x1 x2 x3 x4 x5 x6 x7 x8 x9 x10 x11 x12 x13 x14 x15 : Int) : AHeap := [ABlk.cells [AV.bool false, AV.int IntKind.u8 x0, AV.int IntKind.u8 x1, AV.int IntKind.u8 x2, AV.int IntKind.u8 x3, AV.int IntKind.u8 x4, AV.int IntKind.u8 x5, AV.int IntKind.u8 x6, AV.int IntKind.u8 x7, AV.int IntKind.u8 x8, AV.int IntKind.u8 x9, AV.int IntKind.u8 x10, AV.int IntKind.u8 x11, AV.int IntKind.u8 x12, AV.int IntKind.u8 x13, AV.int IntKind.u8 x14, AV.int IntKind.u8 x15] 17 Md.own none, ABlk.cells [] 1 Md.ro none, ABlk.cells [AV.int IntKind.u8 x0, AV.int IntKind.u8 x1, AV.int IntKind.u8 x2, AV.int IntKind.u8 x3] 1 Md.own (some 1)]
theorem nfRBytesF {R : Type} (x0 x1 x2 x3 x4 x5 x6 x7 x8 x9 x10 x11 x12 x13 x14 x15 : Int) (K : AV → AHeap → Option R) :
 qrun Try.prog [] 100 6 [] [] 29 [.agg (adrV false x0 x1 x2 x3 x4 x5 x6 x7 x8 x9 x10 x11 x12 x13 x14 x15)] [] K =
 K (AV.sl (some (2, 0)) 4 0 false) ((hRBytesF0 x0 x1 x2 x3 x4 x5 x6 x7 x8 x9 x10 x11 x12 x13 x14 x15)) := by
  kernel_rfl


theorem sRBytes : SoundE Try.prog 29 (entF eBytes) := by
  refine canonR_sound fun args h v h' hg => ?_
  unfold eBytes at hg
  split at hg
  · rename_i cs
    simp only [Option.some.injEq, Prod.mk.injEq] at hg
    obtain ⟨hw, rfl, rfl⟩ := hg
    obtain ⟨v, x0, x1, x2, x3, x4, x5, x6, x7, x8, x9, x10, x11, x12, x13, x14, x15, rfl, b0, b1, b2, b3, b4, b5, b6, b7, b8, b9, b10, b11, b12, b13, b14, b15⟩ := adrWf_lit hw
    refine ⟨[.agg (adrV v x0 x1 x2 x3 x4 x5 x6 x7 x8 x9 x10 x11 x12 x13 x14 x15)], [], .cons _ _ _ _ _ _ _ (.flat _ _ rfl) (.nil _), ?_⟩
    cases v
    · refine ⟨_, _, Runs.ofT0 (find_nil _) (F := 100) (n := 6) (pr := []) (nfRBytesF x0 x1 x2 x3 x4 x5 x6 x7 x8 x9 x10 x11 x12 x13 x14 x15 _), [some 2], _, rfl, denB (by simp) rfl (show [.int .u8 x0, .int .u8 x1, .int .u8 x2, .int .u8 x3] = bys [byteD (.int .u8 x0), byteD (.int .u8 x1), byteD (.int .u8 x2), byteD (.int .u8 x3)] from bytes_of (l := [.int .u8 x0, .int .u8 x1, .int .u8 x2, .int .u8 x3]) (by simp [isByteR]; omega)) rfl, ksOk1 _⟩
    · refine ⟨_, _, Runs.ofT0 (find_nil _) (F := 100) (n := 6) (pr := []) (nfRBytesT x0 x1 x2 x3 x4 x5 x6 x7 x8 x9 x10 x11 x12 x13 x14 x15 _), [some 2], _, rfl, denB (by simp) rfl (show [.int .u8 x0, .int .u8 x1, .int .u8 x2, .int .u8 x3, .int .u8 x4, .int .u8 x5, .int .u8 x6, .int .u8 x7, .int .u8 x8, .int .u8 x9, .int .u8 x10, .int .u8 x11, .int .u8 x12, .int .u8 x13, .int .u8 x14, .int .u8 x15] = bys [byteD (.int .u8 x0), byteD (.int .u8 x1), byteD (.int .u8 x2), byteD (.int .u8 x3), byteD (.int .u8 x4), byteD (.int .u8 x5), byteD (.int .u8 x6), byteD (.int .u8 x7), byteD (.int .u8 x8), byteD (.int .u8 x9), byteD (.int .u8 x10), byteD (.int .u8 x11), byteD (.int .u8 x12), byteD (.int .u8 x13), byteD (.int .u8 x14), byteD (.int .u8 x15)] from bytes_of (l := [.int .u8 x0, .int .u8 x1, .int .u8 x2, .int .u8 x3, .int .u8 x4, .int .u8 x5, .int .u8 x6, .int .u8 x7, .int .u8 x8, .int .u8 x9, .int .u8 x10, .int .u8 x11, .int .u8 x12, .int .u8 x13, .int .u8 x14, .int .u8 x15]) (by simp [isByteR]; omega)) rfl, ksOk1 _⟩
  · simp at hg

end Go.Proofs.Ytnchnjkakddhlaa.L

end

section
/- bazaar/bazaarref1.From. -/
set_option autoImplicit false
set_option maxRecDepth 100000
set_option linter.unusedVariables false
set_option linter.unusedSimpArgs false
namespace Go.Proofs.Ytnchnjkakddhlaa.L
open Go Go.Abs

theorem nfRFrom16 {R : Type} (a b c d e f g i j k m n o p q r : UInt8) (K : AV → Option R) : qrun Try.prog [] 100 4 [] [] 54 [.sl (some (0, 0)) 16 0 false] [.cells [.int .u8 ((a.toNat : Nat) : Int), .int .u8 ((b.toNat : Nat) : Int), .int .u8 ((c.toNat : Nat) : Int), .int .u8 ((d.toNat : Nat) : Int), .int .u8 ((e.toNat : Nat) : Int), .int .u8 ((f.toNat : Nat) : Int), .int .u8 ((g.toNat : Nat) : Int), .int .u8 ((i.toNat : Nat) : Int), .int .u8 ((j.toNat : Nat) : Int), .int .u8 ((k.toNat : Nat) : Int), .int .u8 ((m.toNat : Nat) : Int), .int .u8 ((n.toNat : Nat) : Int), .int .u8 ((o.toNat : Nat) : Int), .int .u8 ((p.toNat : Nat) : Int), .int .u8 ((q.toNat : Nat) : Int), .int .u8 ((r.toNat : Nat) : Int)] 1 .far none] (fun v _ => K v) = K (.tup [.agg (adr16 [a, b, c, d, e, f, g, i, j, k, m, n, o, p, q, r] 0), .int .i64 0]) := by kernel_rfl
theorem nfRFrom4 {R : Type} (a b c d : UInt8) (K : AV → Option R) : qrun Try.prog [] 100 4 [] [] 54 [.sl (some (0, 0)) 4 0 false] [.cells [.int .u8 ((a.toNat : Nat) : Int), .int .u8 ((b.toNat : Nat) : Int), .int .u8 ((c.toNat : Nat) : Int), .int .u8 ((d.toNat : Nat) : Int)] 1 .far none] (fun v _ => K v) = K (.tup [.agg (adr4 [a, b, c, d] 0), .int .i64 0]) := by kernel_rfl

theorem sRFrom : SoundE Try.prog 54 (entF (eFrom 0 2)) := by
  refine canonV_sound fun args h v h' hg => ?_
  unfold eFrom at hg
  split at hg
  · rename_i b
    split at hg
    · rename_i hn
      simp only [Option.some.injEq, Prod.mk.injEq] at hg
      obtain ⟨hb, rfl, rfl⟩ := hg
      refine ⟨rfl, rfl, [slB 0 (bOf h b)], [farB (bOf h b)], .cons _ _ _ _ _ _ _ (bOk_canon hb 0) (.nil _), ?_⟩
      have hl := bOk_len hb
      rw [hn] at hl
      generalize bOf h b = l at hl
      obtain ⟨a, b, c, d, e, f, g, i, j, k, m, n, o, p, q, r, rfl⟩ := sixteen_of hl
      exact Runs.valT0 (find_nil _) (F := 100) (n := 4) (pr := []) (nfRFrom16 a b c d e f g i j k m n o p q r _)
    · rename_i hn
      simp only [Option.some.injEq, Prod.mk.injEq] at hg
      obtain ⟨hb, rfl, rfl⟩ := hg
      refine ⟨rfl, rfl, [slB 0 (bOf h b)], [farB (bOf h b)], .cons _ _ _ _ _ _ _ (bOk_canon hb 0) (.nil _), ?_⟩
      have hl := bOk_len hb
      rw [hn] at hl
      generalize bOf h b = l at hl
      obtain ⟨a, b, c, d, rfl⟩ := four_of hl
      exact Runs.valT0 (find_nil _) (F := 100) (n := 4) (pr := []) (nfRFrom4 a b c d _)
    · simp at hg
  · simp at hg

end Go.Proofs.Ytnchnjkakddhlaa.L

end

section
/- bazaar/addr.From. -/
set_option autoImplicit false
set_option maxRecDepth 100000
set_option linter.unusedVariables false
set_option linter.unusedSimpArgs false
namespace Go.Proofs.Ytnchnjkakddhlaa.L
open Go Go.Abs

theorem nfAFrom16 {R : Type} (a b c d e f g i j k m n o p q r : UInt8) (K : AV → Option R) : qrun Try.prog [] 100 4 [] [] 64 [.sl (some (0, 0)) 16 0 false] [.cells [.int .u8 ((a.toNat : Nat) : Int), .int .u8 ((b.toNat : Nat) : Int), .int .u8 ((c.toNat : Nat) : Int), .int .u8 ((d.toNat : Nat) : Int), .int .u8 ((e.toNat : Nat) : Int), .int .u8 ((f.toNat : Nat) : Int), .int .u8 ((g.toNat : Nat) : Int), .int .u8 ((i.toNat : Nat) : Int), .int .u8 ((j.toNat : Nat) : Int), .int .u8 ((k.toNat : Nat) : Int), .int .u8 ((m.toNat : Nat) : Int), .int .u8 ((n.toNat : Nat) : Int), .int .u8 ((o.toNat : Nat) : Int), .int .u8 ((p.toNat : Nat) : Int), .int .u8 ((q.toNat : Nat) : Int), .int .u8 ((r.toNat : Nat) : Int)] 1 .far none] (fun v _ => K v) = K (.tup [.agg (adr16 [a, b, c, d, e, f, g, i, j, k, m, n, o, p, q, r] 0), .int .i64 0]) := by kernel_rfl
theorem nfAFrom4 {R : Type} (a b c d : UInt8) (K : AV → Option R) : qrun Try.prog [] 100 4 [] [] 64 [.sl (some (0, 0)) 4 0 false] [.cells [.int .u8 ((a.toNat : Nat) : Int), .int .u8 ((b.toNat : Nat) : Int), .int .u8 ((c.toNat : Nat) : Int), .int .u8 ((d.toNat : Nat) : Int)] 1 .far none] (fun v _ => K v) = K (.tup [.agg (adr4 [a, b, c, d] 0), .int .i64 0]) := by kernel_rfl

theorem sAFrom : SoundE Try.prog 64 (entF (eFrom 0 2)) := by
  refine canonV_sound fun args h v h' hg => ?_
  unfold eFrom at hg
  split at hg
  · rename_i b
    split at hg
    · rename_i hn
      simp only [Option.some.injEq, Prod.mk.injEq] at hg
      obtain ⟨hb, rfl, rfl⟩ := hg
      refine ⟨rfl, rfl, [slB 0 (bOf h b)], [farB (bOf h b)], .cons _ _ _ _ _ _ _ (bOk_canon hb 0) (.nil _), ?_⟩
      have hl := bOk_len hb
      rw [hn] at hl
      generalize bOf h b = l at hl
      obtain ⟨a, b, c, d, e, f, g, i, j, k, m, n, o, p, q, r, rfl⟩ := sixteen_of hl
      exact Runs.valT0 (find_nil _) (F := 100) (n := 4) (pr := []) (nfAFrom16 a b c d e f g i j k m n o p q r _)
    · rename_i hn
      simp only [Option.some.injEq, Prod.mk.injEq] at hg
      obtain ⟨hb, rfl, rfl⟩ := hg
      refine ⟨rfl, rfl, [slB 0 (bOf h b)], [farB (bOf h b)], .cons _ _ _ _ _ _ _ (bOk_canon hb 0) (.nil _), ?_⟩
      have hl := bOk_len hb
      rw [hn] at hl
      generalize bOf h b = l at hl
      obtain ⟨a, b, c, d, rfl⟩ := four_of hl
      exact Runs.valT0 (find_nil _) (F := 100) (n := 4) (pr := []) (nfAFrom4 a b c d _)
    · simp at hg
  · simp at hg

end Go.Proofs.Ytnchnjkakddhlaa.L

end

section
/- bazaar/bazaarref1.Valid. -/
set_option autoImplicit false
set_option maxRecDepth 100000
set_option linter.unusedVariables false
set_option linter.unusedSimpArgs false
namespace Go.Proofs.Ytnchnjkakddhlaa.L
open Go Go.Abs

theorem nfRValidT {R : Type} (x0 x1 x2 x3 x4 x5 x6 x7 x8 x9 x10 x11 x12 x13 x14 x15 : Int) (K : AV → Option R) :
 qrun Try.prog [] 100 6 [] [] 24 [.agg (adrV true x0 x1 x2 x3 x4 x5 x6 x7 x8 x9 x10 x11 x12 x13 x14 x15)] [] (fun v _ => K v) =
 K (AV.bool true) := by
  kernel_rfl

theorem nfRValidF {R : Type} (x0 x1 x2 x3 x4 x5 x6 x7 x8 x9 x10 x11 x12 x13 x14 x15 : Int) (K : AV → Option R) :
 qrun Try.prog [] 100 6 [] [] 24 [.agg (adrV false x0 x1 x2 x3 x4 x5 x6 x7 x8 x9 x10 x11 x12 x13 x14 x15)] [] (fun v _ => K v) =
 (if (intV (some (AV.int IntKind.u8 x4)) != 0) = true then
 K (AV.bool false)
 else (if (intV (some (AV.int IntKind.u8 x5)) != 0) = true then
 K (AV.bool false)
 else (if (intV (some (AV.int IntKind.u8 x6)) != 0) = true then
 K (AV.bool false)
 else (if (intV (some (AV.int IntKind.u8 x7)) != 0) = true then
 K (AV.bool false)
 else (if (intV (some (AV.int IntKind.u8 x8)) != 0) = true then
 K (AV.bool false)
 else (if (intV (some (AV.int IntKind.u8 x9)) != 0) = true then
 K (AV.bool false)
 else (if (intV (some (AV.int IntKind.u8 x10)) != 0) = true then
 K (AV.bool false)
 else (if (intV (some (AV.int IntKind.u8 x11)) != 0) = true then
 K (AV.bool false)
 else (if (intV (some (AV.int IntKind.u8 x12)) != 0) = true then
 K (AV.bool false)
 else (if (intV (some (AV.int IntKind.u8 x13)) != 0) = true then
 K (AV.bool false)
 else (if (intV (some (AV.int IntKind.u8 x14)) != 0) = true then
 K (AV.bool false)
 else (if (intV (some (AV.int IntKind.u8 x15)) != 0) = true then
 K (AV.bool false)
 else K (AV.bool true))))))))))))) := by
  kernel_rfl


end Go.Proofs.Ytnchnjkakddhlaa.L

end

section
/- bazaaralike's Round. -/
set_option autoImplicit false
set_option maxRecDepth 100000
set_option linter.unusedVariables false
namespace Go.Proofs.Ytnchnjkakddhlaa.L
open Go Go.Abs

end Go.Proofs.Ytnchnjkakddhlaa.L

end

section
/- A flow, a server of so many. -/
set_option autoImplicit false
set_option maxRecDepth 100000
set_option linter.unusedVariables false
set_option linter.unusedSimpArgs false
namespace Go.Proofs.Ytnchnjkakddhlaa.L
open Go Go.Abs

end Go.Proofs.Ytnchnjkakddhlaa.L

namespace Go.Abs

end Go.Abs

end

section
/- IPv4's packets. -/
set_option autoImplicit false
set_option linter.unusedVariables false
set_option linter.unusedSimpArgs false
namespace Go.Abs

def B4 (a f g v : UInt8) (x y p q r : UInt8) : List UInt8 := [a, 0, 0, f, 0, 0, g, 0, 64, v, x, y, 10, p, q, r, 192, 168, 0, 1, 1, 2, 3, 4, 5, 6, 7, 8]
end Go.Abs

end

section
/- Flows' and servers' bytes; packets that are made. -/
set_option autoImplicit false
set_option linter.unusedVariables false
set_option linter.unusedSimpArgs false
namespace Go.Abs

end Go.Abs

end
