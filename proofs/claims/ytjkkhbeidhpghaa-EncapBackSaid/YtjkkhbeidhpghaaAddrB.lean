/- Texts that stand together: PutKit, AddrKit, FourKit, SixKit, SegKit, ABytes, RBytes, RFrom, AFrom, RValid, Round, KeyDip, Pk4Kit, PktKit. -/
import Derived.Test.YtjkkhbeidhpghaaBase
import Derived.Test.YtjkkhbeidhpghaaProg
section
/- Numbers put into bytes. -/
set_option autoImplicit false
set_option linter.unusedVariables false
set_option linter.unusedSimpArgs false
namespace Go.Abs
variable {P : Program}

def bigR (v : Int) : Nat → List UInt8
  | 0 => []
  | n + 1 => u8i (v.fdiv (256 ^ n)) :: bigR v n
@[simp] theorem bigR_length (v : Int) : ∀ n, (bigR v n).length = n
  | 0 => rfl
  | n + 1 => by simp [bigR, bigR_length v n]

theorem bigR_snoc (v : Int) : ∀ n, bigR v (n + 1) = bigR (v.fdiv 256) n ++ [u8i v]
  | 0 => by simp [bigR]
  | n + 1 => by
    rw [bigR, bigR_snoc v n, bigR]
    have hp : (0 : Int) < 256 ^ n := Int.pow_pos (by omega)
    rw [List.cons_append]
    congr 2
    rw [Int.fdiv_eq_ediv_of_nonneg _ (by rw [Int.pow_succ]; omega), Int.fdiv_eq_ediv_of_nonneg _ (by omega), Int.fdiv_eq_ediv_of_nonneg _ (by omega), Int.pow_succ, Int.mul_comm, Int.ediv_ediv, if_neg (by omega), Int.sub_zero]

def setsDown : List UInt8 → Nat → Nat → Int → List UInt8
  | l, _, 0, _ => l
  | l, p, n + 1, v => setsDown (l.set (p + n) (u8i v)) p n (v.fdiv 256)
theorem setsDown_eq : ∀ (n : Nat) (l : List UInt8) (p : Nat) (v : Int), p + n ≤ l.length → setsDown l p n v = l.take p ++ bigR v n ++ l.drop (p + n)
  | 0, l, p, v, h => by simp [setsDown, bigR]
  | n + 1, l, p, v, h => by
    rw [setsDown, setsDown_eq n _ p _ (by simp; omega), bigR_snoc]
    have e1 : (l.set (p + n) (u8i v)).take p = l.take p := by rw [List.take_set_of_le (by omega)]
    have e2 : (l.set (p + n) (u8i v)).drop (p + n) = u8i v :: l.drop (p + (n + 1)) := by
      rw [List.drop_set, if_neg (by omega), Nat.sub_self, List.drop_eq_getElem_cons (by omega)]
      rfl
    rw [e1, e2]
    simp

def putR (l : List UInt8) (p : Int) (sz : Nat) (v : Int) : List UInt8 := if 0 ≤ p ∧ p + sz ≤ (l.length : Int) then l.take p.toNat ++ bigR v sz ++ l.drop (p.toNat + sz) else l
@[simp] theorem putR_length (l : List UInt8) (p : Int) (sz : Nat) (v : Int) : (putR l p sz v).length = l.length := by
  unfold putR
  split
  · simp; omega
  · rfl

@[simp] theorem intV_some (k : IntKind) (n : Int) : intV (some (.int k n)) = n := rfl
@[simp] theorem boolV_some (b : Bool) : boolV (some (.bool b)) = b := rfl
@[simp] theorem isIntV_some (k : IntKind) (n : Int) : isIntV k (some (.int k n)) = true := by simp [isIntV]
theorem bys_full (l : List UInt8) : List.take (l.length * 1) (bys l) = bys l := by simp

@[simp] theorem byteD_u8 (k : IntKind) (x : UInt8) : byteD (.int k ((x.toNat : Nat) : Int)) = x := by simp [byteD]
theorem bigR8_2 (v : Int) : bigR v 2 = [u8i (v.fdiv 256), u8i (v.fdiv 1)] := rfl
theorem bigR8_4 (v : Int) : bigR v 4 = [u8i (v.fdiv 16777216), u8i (v.fdiv 65536), u8i (v.fdiv 256), u8i (v.fdiv 1)] := rfl
def setsUp : List UInt8 → Nat → List UInt8 → List UInt8
  | l, _, [] => l
  | l, p, x :: xs => setsUp (l.set p x) (p + 1) xs
theorem setsUp_eq : ∀ (xs l : List UInt8) (p : Nat), p + xs.length ≤ l.length → setsUp l p xs = l.take p ++ xs ++ l.drop (p + xs.length)
  | [], l, p, h => by simp [setsUp]
  | x :: xs, l, p, h => by
    simp only [List.length_cons] at h
    rw [setsUp, setsUp_eq xs _ _ (by simp; omega)]
    have e1 : (l.set p x).take (p + 1) = l.take p ++ [x] := by
      rw [List.set_eq_take_append_cons_drop, if_pos (by omega), List.take_append, List.take_of_length_le (by simp; omega)]
      have : (List.take p l).length = p := by simp; omega
      rw [this]; simp
    have e2 : (l.set p x).drop (p + 1 + xs.length) = l.drop (p + (x :: xs).length) := by
      rw [List.drop_set, if_pos (by omega)]
      congr 1; simp; omega
    rw [e1, e2]; simp

theorem putA (q i : Nat) (j : Int) (hj : j = i) (hq : q ≤ 1000000000000) (hi : i ≤ 8) : IntKind.i64.wrap ((q : Int) + j) = ((q + i : Nat) : Int) := by
  subst hj
  rw [wrapI64 (by omega)]; omega
theorem putB (q i : Nat) : 0 + ((q + i : Nat) : Int).toNat * 1 = q + i := by omega

theorem posOf1 {i k j : Nat} (h : posOf [i] k = some j) : k = i ∧ j = 0 := by
  simp only [posOf] at h
  split at h
  · rename_i e; simp at h; exact ⟨e.symm, h.symm⟩
  · simp at h

theorem frame_one {f : FuncId} {args : Nat → List AV} {h : AHeap} {i : Nat} {vs vs' : List AV} {e : Nat} {par : Option Nat} {v : AV} (hb : h[i]? = some (.cells vs e .own par)) (hpar : par ≠ some i)
    (ha : ∀ i ρ, ρ i = some 0 → ARs ρ (args i) (args 0)) (hr : Runs P f (args 0) [.cells vs e .own none] v [.cells vs' e .own none]) (hf : AV.frees vs' = true) (hv : v.free = true) (hfv : AV.frees vs = true := by first | rfl | simp) :
    ∃ q, Frames P f (args i) (killp h q) v ((killp h par).set i (.cells vs' e .own none)) := by
  have hi := (List.getElem?_eq_some_iff.1 hb).1
  have hb2 : (killp h par)[i]? = some (.cells vs e .own par) := by rw [killp_get_ne hpar]; exact hb
  refine ⟨par, [i], [], args 0, [.cells vs e .own none], v, [.cells vs' e .own none], [.cells vs' e .own none], [], by simp, by simp, by simp, ha _ _ (by simp [posOf]), ?_, ?_, hr, ?_, .nil, .free _ hv, by simp [setAll]⟩
  · exact .cons _ _ _ _ _ hb2 (.cells _ _ _ _ _ _ (.free _ hfv) fun p j hp hq => by
      obtain ⟨rfl, rfl⟩ := posOf1 hq
      exact absurd hp hpar) .nil
  · intro k hk b hb'
    simp only [List.mem_singleton] at hk
    subst hk
    rw [hb2] at hb'; cases hb'
    refine ⟨rfl, fun q c hq hc => ?_⟩
    simp only [ABlk.par] at hq
    subst hq
    rw [killp, List.getElem?_set] at hc
    split at hc
    · split at hc
      · cases hc; rfl
      · simp at hc
    · rename_i hne; exact absurd rfl hne
  · exact .cons _ _ _ _ _ rfl (.row hf (by simp)) .nil

end Go.Abs

end

section
/- Addresses as values; bytes at places. -/
set_option autoImplicit false
set_option linter.unusedVariables false
set_option linter.unusedSimpArgs false
namespace Go.Abs
variable {P : Program}

def adrV (v : Bool) (x0 x1 x2 x3 x4 x5 x6 x7 x8 x9 x10 x11 x12 x13 x14 x15 : Int) : List AV :=
  [.bool v, .int .u8 x0, .int .u8 x1, .int .u8 x2, .int .u8 x3, .int .u8 x4, .int .u8 x5, .int .u8 x6, .int .u8 x7, .int .u8 x8, .int .u8 x9, .int .u8 x10, .int .u8 x11, .int .u8 x12, .int .u8 x13, .int .u8 x14, .int .u8 x15]
def adr16 (l : List UInt8) (p : Nat) : List AV := adrV true (byt l p) (byt l (p + 1)) (byt l (p + 2)) (byt l (p + 3)) (byt l (p + 4)) (byt l (p + 5)) (byt l (p + 6)) (byt l (p + 7)) (byt l (p + 8)) (byt l (p + 9)) (byt l (p + 10)) (byt l (p + 11)) (byt l (p + 12)) (byt l (p + 13)) (byt l (p + 14)) (byt l (p + 15))
def adr4 (l : List UInt8) (p : Nat) : List AV := adrV false (byt l p) (byt l (p + 1)) (byt l (p + 2)) (byt l (p + 3)) 0 0 0 0 0 0 0 0 0 0 0 0

mutual
@[simp] theorem AV.beq_self : ∀ a : AV, a.beq a = true
  | .any => rfl
  | .bool b => by simp [AV.beq]
  | .int k n => by simp [AV.beq]
  | .str s => by simp [AV.beq]
  | .ptr a => by simp [AV.beq]
  | .sl a l c e => by simp [AV.beq]
  | .map r => by simp [AV.beq]
  | .fn f c => by simp [AV.beq, AV.beqs_self c]
  | .nilFn => rfl
  | .agg l => by simp [AV.beq, AV.beqs_self l]
  | .tup l => by simp [AV.beq, AV.beqs_self l]
@[simp] theorem AV.beqs_self : ∀ l : List AV, AV.beqs l l = true
  | [] => rfl
  | a :: l => by simp [AV.beqs, AV.beq_self a, AV.beqs_self l]
end

theorem four_of {l : List UInt8} (h : l.length = 4) : ∃ a b c d, l = [a, b, c, d] := by
  match l, h with
  | [a, b, c, d], _ => exact ⟨a, b, c, d, rfl⟩
theorem sixteen_of {l : List UInt8} (h : l.length = 16) : ∃ a b c d e f g i j k m n o p q r, l = [a, b, c, d, e, f, g, i, j, k, m, n, o, p, q, r] := by
  match l, h with
  | [a, b, c, d, e, f, g, i, j, k, m, n, o, p, q, r], _ => exact ⟨a, b, c, d, e, f, g, i, j, k, m, n, o, p, q, r, rfl⟩

theorem byt_part {l : List UInt8} {p n i : Nat} (h : i < n) : byt ((l.drop p).take n) i = byt l (p + i) := by
  simp [byt, List.getD, List.getElem?_take, h]

def eFrom (ok bad : Int) : GEnt := fun args h => match args with
  | [b] => match nOf b with
    | 16 => some (bOk h b, .tup [.agg (adr16 (bOf h b) 0), .int .i64 ok], h)
    | 4 => some (bOk h b, .tup [.agg (adr4 (bOf h b) 0), .int .i64 ok], h)
    | _ => none
  | _ => none

def kb1 (n : Int) : Int := n % 1073741824 / 65536 % 256
def kb2 (n : Int) : Int := n % 1073741824 / 256 % 256
def kb3 (n : Int) : Int := n % 1073741824 % 256
def kport (n : Int) : Int := 1000 + n % 1073741824 % 50000
def db3 (n : Int) : Int := 1 + n % 200
def dport (n : Int) : Int := 8000 + n % 1000
theorem kb1_range (n : Int) : 0 ≤ kb1 n ∧ kb1 n < 256 := by unfold kb1; omega
theorem kb2_range (n : Int) : 0 ≤ kb2 n ∧ kb2 n < 256 := by unfold kb2; omega
theorem kb3_range (n : Int) : 0 ≤ kb3 n ∧ kb3 n < 256 := by unfold kb3; omega
theorem kport_range (n : Int) : 1000 ≤ kport n ∧ kport n < 51000 := by unfold kport; omega
theorem db3_range (n : Int) : 1 ≤ db3 n ∧ db3 n < 201 := by unfold db3; omega
def kSrc (v : Bool) (n : Int) : List AV := adrV v 10 (kb1 n) (kb2 n) (kb3 n) 0 0 0 0 0 0 0 0 0 0 0 0
def kDst (v : Bool) : List AV := adrV v 192 168 0 1 0 0 0 0 0 0 0 0 0 0 0 0
def dAdr (v : Bool) (n : Int) : List AV := adrV v 172 16 0 (db3 n) 0 0 0 0 0 0 0 0 0 0 0 0
def eKey : GEnt := fun args h => match args with
  | [.int .i64 n, .bool v, .bool u] => some (true, .agg ([.int .u8 (if u then 17 else 6)] ++ kSrc v n ++ kDst v ++ [.int .u16 (kport n), .int .u16 80]), h)
  | _ => none
def eDip : GEnt := fun args h => match args with
  | [.int .i64 n, .bool v] => some (true, .agg (dAdr v n ++ [.int .u16 (dport n)]), h)
  | _ => none

def isZeroV : AV → Bool
  | .int _ n => decide (n = 0)
  | _ => false
@[simp] theorem isZeroV_int (k : IntKind) (n : Int) : isZeroV (.int k n) = decide (n = 0) := rfl

def adrWf : List AV → Bool
  | .bool _ :: xs => decide (xs.length = 16) && xs.all isByteR
  | _ => false
def adrBytes : List AV → List UInt8
  | .bool v :: xs => match v with
    | true => xs.map byteD
    | false => (xs.take 4).map byteD
  | _ => []
def adrValid : List AV → Bool
  | .bool v :: xs => match v with
    | true => true
    | false => (xs.drop 4).all isZeroV
  | _ => false

theorem isByteR_int {a : AV} (h : isByteR a = true) : ∃ x, a = .int .u8 x ∧ 0 ≤ x ∧ x < 256 := by
  unfold isByteR at h
  split at h
  · rename_i n; simp only [decide_eq_true_eq] at h; exact ⟨n, rfl, h⟩
  · simp at h

theorem adrWf_lit {cs : List AV} (h : adrWf cs = true) : ∃ v x0 x1 x2 x3 x4 x5 x6 x7 x8 x9 x10 x11 x12 x13 x14 x15, cs = adrV v x0 x1 x2 x3 x4 x5 x6 x7 x8 x9 x10 x11 x12 x13 x14 x15 ∧ (0 ≤ x0 ∧ x0 < 256) ∧ (0 ≤ x1 ∧ x1 < 256) ∧ (0 ≤ x2 ∧ x2 < 256) ∧ (0 ≤ x3 ∧ x3 < 256) ∧ (0 ≤ x4 ∧ x4 < 256) ∧ (0 ≤ x5 ∧ x5 < 256) ∧ (0 ≤ x6 ∧ x6 < 256) ∧ (0 ≤ x7 ∧ x7 < 256) ∧ (0 ≤ x8 ∧ x8 < 256) ∧ (0 ≤ x9 ∧ x9 < 256) ∧ (0 ≤ x10 ∧ x10 < 256) ∧ (0 ≤ x11 ∧ x11 < 256) ∧ (0 ≤ x12 ∧ x12 < 256) ∧ (0 ≤ x13 ∧ x13 < 256) ∧ (0 ≤ x14 ∧ x14 < 256) ∧ (0 ≤ x15 ∧ x15 < 256) := by
  unfold adrWf at h
  split at h
  · rename_i v l
    simp only [Bool.and_eq_true, decide_eq_true_eq] at h
    obtain ⟨hl, h⟩ := h
    match l, hl, h with
    | [a0, a1, a2, a3, a4, a5, a6, a7, a8, a9, a10, a11, a12, a13, a14, a15], _, h =>
      simp only [List.all_cons, List.all_nil, Bool.and_eq_true, and_true] at h
      obtain ⟨h0, h1, h2, h3, h4, h5, h6, h7, h8, h9, h10, h11, h12, h13, h14, h15⟩ := h
      obtain ⟨x0, rfl, b0⟩ := isByteR_int h0
      obtain ⟨x1, rfl, b1⟩ := isByteR_int h1
      obtain ⟨x2, rfl, b2⟩ := isByteR_int h2
      obtain ⟨x3, rfl, b3⟩ := isByteR_int h3
      obtain ⟨x4, rfl, b4⟩ := isByteR_int h4
      obtain ⟨x5, rfl, b5⟩ := isByteR_int h5
      obtain ⟨x6, rfl, b6⟩ := isByteR_int h6
      obtain ⟨x7, rfl, b7⟩ := isByteR_int h7
      obtain ⟨x8, rfl, b8⟩ := isByteR_int h8
      obtain ⟨x9, rfl, b9⟩ := isByteR_int h9
      obtain ⟨x10, rfl, b10⟩ := isByteR_int h10
      obtain ⟨x11, rfl, b11⟩ := isByteR_int h11
      obtain ⟨x12, rfl, b12⟩ := isByteR_int h12
      obtain ⟨x13, rfl, b13⟩ := isByteR_int h13
      obtain ⟨x14, rfl, b14⟩ := isByteR_int h14
      obtain ⟨x15, rfl, b15⟩ := isByteR_int h15
      exact ⟨v, x0, x1, x2, x3, x4, x5, x6, x7, x8, x9, x10, x11, x12, x13, x14, x15, rfl, b0, b1, b2, b3, b4, b5, b6, b7, b8, b9, b10, b11, b12, b13, b14, b15⟩
  · simp at h

def adrV6 : List AV → Bool
  | .bool v :: _ => v
  | _ => false
theorem adrWf_B {cs : List AV} (h : adrWf cs = true) : ∃ v X, cs = .bool v :: bys X ∧ X.length = 16 := by
  unfold adrWf at h
  split at h
  · rename_i v l
    simp only [Bool.and_eq_true, decide_eq_true_eq] at h
    exact ⟨v, l.map byteD, by rw [← bytes_of h.2], by simp [h.1]⟩
  · simp at h
theorem adrB_wf {v : Bool} {X : List UInt8} (h : X.length = 16) : adrWf (.bool v :: bys X) = true := by simp [adrWf, h]
theorem adrB_T (X : List UInt8) : adrBytes (.bool true :: bys X) = X := by simp [adrBytes]
theorem adrB_F (X : List UInt8) : adrBytes (.bool false :: bys X) = X.take 4 := by simp [adrBytes, ← List.map_take]
theorem adrB_17 {v : Bool} {X : List UInt8} (h : X.length = 16) : List.take 17 (AV.bool v :: bys X) = AV.bool v :: bys X := List.take_of_length_le (by simp [h])
theorem adrB_16 {v : Bool} {X : List UInt8} (h : X.length = 16) : List.take 16 (List.drop 1 (AV.bool v :: bys X)) = bys X := by simp [← h]
theorem adrB_free {v : Bool} {X : List UInt8} : AV.free (.agg (.bool v :: bys X)) = true := by simp [AV.free, AV.frees]
theorem denRB {h1 : AHeap} {n0 m k n : Nat} {vs : List AV} {l : List UInt8} {par : Option Nat} {b : Bool} (hk : n0 ≤ k) (hb : h1[k]? = some (.cells vs 1 .own par)) (hv : vs = bys l) (hn : n = l.length) :
    Den h1 n0 m [some k] (.tup [.sl (some (k, 0)) n 0 false, .bool b]) (.tup [slB m l, .bool b]) [ownB l] :=
  .tup _ _ _ _ _ (.cons m [some k] [] _ _ _ _ [ownB l] [] (denB hk hb hv hn) (.cons _ [] [] _ _ _ _ [] [] (.flat _ _ rfl) (.nil _)))
theorem denRB0 {h1 : AHeap} {n0 m : Nat} {e b : Bool} : Den h1 n0 m [none] (.tup [.sl none 0 0 e, .bool b]) (.tup [slB m [], .bool b]) [ownB []] :=
  .tup _ _ _ _ _ (.cons m [none] [] _ _ _ _ [ownB []] [] denB0 (.cons _ [] [] _ _ _ _ [] [] (.flat _ _ rfl) (.nil _)))

def eBytes : GEnt := fun args h => match args with
  | [.agg cs] => some (adrWf cs, slB h.length (adrBytes cs), h ++ [ownB (adrBytes cs)])
  | _ => none
def eValid : GEnt := fun args h => match args with
  | [.agg cs] => some (adrWf cs, .bool (adrValid cs), h)
  | _ => none

end Go.Abs

end

section
/- What the document says of IPv4's header. -/
set_option autoImplicit false
set_option linter.unusedVariables false
namespace Go.Abs

def s4 (l : List UInt8) : Int := byt l 0 % 16 * 4
def r4 (l : List UInt8) : Int :=
  if l.length < 20 then 1 else if byt l 0 / 16 ≠ 4 then 3 else if s4 l < 20 then 3 else if word l 2 < s4 l then 3 else if (l.length : Int) < word l 2 then 1 else if chkI (l.take (s4 l).toNat) ≠ 0 then 4
  else if word l 6 % 16384 ≠ 0 then 5 else if byt l 9 ≠ 6 ∧ byt l 9 ≠ 17 then 6 else 0
def z4 (l : List UInt8) (x : Int) : Int := if r4 l = 0 then x else 0
def adrZ4 (l : List UInt8) (p : Nat) : List AV := adrV false (z4 l (byt l p)) (z4 l (byt l (p + 1))) (z4 l (byt l (p + 2))) (z4 l (byt l (p + 3))) 0 0 0 0 0 0 0 0 0 0 0 0
def head4 (l : List UInt8) : List AV := [.int .i64 (z4 l (s4 l)), .int .i64 (z4 l (word l 2)), .int .u8 (z4 l (byt l 9))] ++ adrZ4 l 12 ++ adrZ4 l 16
def v4Read (l : List UInt8) : AV := .tup [.agg (head4 l), .int .i64 (r4 l)]

theorem byt_tk4 {l : List UInt8} {p n i : Nat} (h : i < n) : byt (List.take n (List.drop p l)) i = byt l (p + i) := byt_part h
theorem fdiv16' (x : Int) : x.fdiv 16 = x / 16 := Int.fdiv_eq_ediv_of_nonneg _ (by omega)

theorem and15 {n : Int} (h : 0 ≤ n ∧ n < 256) : abits .u8 (· &&& ·) n 15 = n % 16 := by
  obtain ⟨a, rfl⟩ := Int.eq_ofNat_of_zero_le h.1
  have h1 : (BitVec.ofInt 8 (15 : Int)).toNat = 15 := by decide
  have h2 := ofIntNat 8 a (by omega)
  show IntKind.u8.wrap ((BitVec.ofInt 8 (a : Int) &&& BitVec.ofInt 8 (15 : Int)).toNat : Int) = _
  rw [BitVec.toNat_and, h2, h1, show (15 : Nat) = 2 ^ 4 - 1 by rfl, Nat.and_two_pow_sub_one_eq_mod, wrapU8 (by omega)]
  omega
theorem and3f {n : Int} (h : 0 ≤ n ∧ n < 65536) : abits .u16 (· &&& ·) n 16383 = n % 16384 := by
  obtain ⟨a, rfl⟩ := Int.eq_ofNat_of_zero_le h.1
  have h1 : (BitVec.ofInt 16 (16383 : Int)).toNat = 16383 := by decide
  have h2 := ofIntNat 16 a (by omega)
  show IntKind.u16.wrap ((BitVec.ofInt 16 (a : Int) &&& BitVec.ofInt 16 (16383 : Int)).toNat : Int) = _
  rw [BitVec.toNat_and, h2, h1, show (16383 : Nat) = 2 ^ 14 - 1 by rfl, Nat.and_two_pow_sub_one_eq_mod, wrapU16 (by omega)]
  omega
theorem and3fi {n : Int} (h : 0 ≤ n ∧ n < 65536) : abits .i64 (· &&& ·) n 16383 = n % 16384 := by
  obtain ⟨a, rfl⟩ := Int.eq_ofNat_of_zero_le h.1
  have h1 : (BitVec.ofInt 64 (16383 : Int)).toNat = 16383 := by decide
  have h2 := ofIntNat 64 a (by omega)
  show IntKind.i64.wrap ((BitVec.ofInt 64 (a : Int) &&& BitVec.ofInt 64 (16383 : Int)).toNat : Int) = _
  rw [BitVec.toNat_and, h2, h1, show (16383 : Nat) = 2 ^ 14 - 1 by rfl, Nat.and_two_pow_sub_one_eq_mod, wrapI64 (by omega)]
  omega

def adr4c (a b c d : UInt8) (X : List AV) : List AV := .int .u8 ((a.toNat : Nat) : Int) :: .int .u8 ((b.toNat : Nat) : Int) :: .int .u8 ((c.toNat : Nat) : Int) :: .int .u8 ((d.toNat : Nat) : Int) :: X
theorem adr4_lit {X : List UInt8} (h : X.length = 16) : ∃ a b c d Y, bys X = adr4c a b c d (bys Y) ∧ X = a :: b :: c :: d :: Y ∧ Y.length = 12 := by
  match X, h with
  | a :: b :: c :: d :: Y, h => exact ⟨a, b, c, d, Y, rfl, rfl, by simpa using h⟩

theorem adr4_facts {a b c d : UInt8} {Y : List UInt8} (hY : Y.length = 12) :
    List.take 17 (AV.bool false :: .int .u8 ((a.toNat : Nat) : Int) :: .int .u8 ((b.toNat : Nat) : Int) :: .int .u8 ((c.toNat : Nat) : Int) :: .int .u8 ((d.toNat : Nat) : Int) :: bys Y) = AV.bool false :: .int .u8 ((a.toNat : Nat) : Int) :: .int .u8 ((b.toNat : Nat) : Int) :: .int .u8 ((c.toNat : Nat) : Int) :: .int .u8 ((d.toNat : Nat) : Int) :: bys Y ∧
    adrWf (AV.bool false :: .int .u8 ((a.toNat : Nat) : Int) :: .int .u8 ((b.toNat : Nat) : Int) :: .int .u8 ((c.toNat : Nat) : Int) :: .int .u8 ((d.toNat : Nat) : Int) :: bys Y) = true ∧
    adrBytes (AV.bool false :: .int .u8 ((a.toNat : Nat) : Int) :: .int .u8 ((b.toNat : Nat) : Int) :: .int .u8 ((c.toNat : Nat) : Int) :: .int .u8 ((d.toNat : Nat) : Int) :: bys Y) = [a, b, c, d] := by
  refine ⟨List.take_of_length_le (by simp [hY]), ?_, ?_⟩
  · exact adrB_wf (X := a :: b :: c :: d :: Y) (by simp [hY])
  · show [byteD (.int .u8 ((a.toNat : Nat) : Int)), byteD (.int .u8 ((b.toNat : Nat) : Int)), byteD (.int .u8 ((c.toNat : Nat) : Int)), byteD (.int .u8 ((d.toNat : Nat) : Int))] = _
    simp only [byteD_u8]
theorem setsUp_length : ∀ (xs l : List UInt8) (p : Nat), (setsUp l p xs).length = l.length
  | [], _, _ => rfl
  | x :: xs, l, p => by rw [setsUp, setsUp_length xs]; simp
def base4 (pr n : Int) (S D : List UInt8) : List UInt8 := [69, 0, u8i ((20 + n) / 256), u8i (20 + n), 0, 0, 64, 0, 64, u8i pr, 0, 0] ++ S ++ D
def hdr4 (pr n : Int) (S D : List UInt8) : List UInt8 := setsUp (base4 pr n S D) 10 (bigR (chkI (base4 pr n S D)) 2)
def makes4 (cs ds : List AV) (n : Int) : Prop := adrV6 cs = false ∧ adrV6 ds = false ∧ 0 ≤ n ∧ n ≤ 65515
instance (cs ds : List AV) (n : Int) : Decidable (makes4 cs ds n) := by unfold makes4; infer_instance
def make4 (cs ds : List AV) (pr n : Int) : List UInt8 := if makes4 cs ds n then hdr4 pr n (adrBytes cs) (adrBytes ds) else []
theorem make4_N {cs ds : List AV} {pr n : Int} (h : ¬ makes4 cs ds n) : make4 cs ds pr n = [] := by unfold make4; rw [if_neg h]
def eMk4 : GEnt := fun args h => match args with
  | [.agg cs, .agg ds, .int .u8 pr, .int .i64 n] => some (adrWf cs && (adrWf ds && decide (0 ≤ pr ∧ pr < 256)), .tup [slB h.length (make4 cs ds pr n), .bool (decide (makes4 cs ds n))], h ++ [ownB (make4 cs ds pr n)])
  | _ => none
theorem isByteR_u8 (x : UInt8) : isByteR (.int .u8 ((x.toNat : Nat) : Int)) = true := by
  have := x.toNat_lt
  simp [isByteR]; omega
theorem byteD_i8 {k : IntKind} {x : Int} (h : 0 ≤ x ∧ x < 256) : byteD (.int k x) = u8i x := by
  obtain ⟨a, rfl⟩ := Int.eq_ofNat_of_zero_le h.1
  have : (a : Int) % 256 = a := by omega
  simp [byteD, u8i, this]

end Go.Abs

end

section
/- What the document says of IPv6's header. -/
set_option autoImplicit false
set_option linter.unusedVariables false
namespace Go.Abs

def r6 (l : List UInt8) : Int :=
  if l.length < 40 then 1 else if byt l 0 / 16 ≠ 6 then 3 else if (l.length : Int) < 40 + word l 4 then 1 else if byt l 6 = 44 then 5 else if byt l 6 ≠ 6 ∧ byt l 6 ≠ 17 then 6 else 0
def z6 (l : List UInt8) (x : Int) : Int := if r6 l = 0 then x else 0
def adrZ6 (l : List UInt8) (p : Nat) : List AV := adrV (decide (r6 l = 0)) (z6 l (byt l p)) (z6 l (byt l (p + 1))) (z6 l (byt l (p + 2))) (z6 l (byt l (p + 3))) (z6 l (byt l (p + 4))) (z6 l (byt l (p + 5))) (z6 l (byt l (p + 6))) (z6 l (byt l (p + 7)))
  (z6 l (byt l (p + 8))) (z6 l (byt l (p + 9))) (z6 l (byt l (p + 10))) (z6 l (byt l (p + 11))) (z6 l (byt l (p + 12))) (z6 l (byt l (p + 13))) (z6 l (byt l (p + 14))) (z6 l (byt l (p + 15)))
def head6 (l : List UInt8) : List AV := [.int .i64 (z6 l (40 + word l 4)), .int .u8 (z6 l (byt l 6))] ++ adrZ6 l 8 ++ adrZ6 l 24
def v6Read (l : List UInt8) : AV := .tup [.agg (head6 l), .int .i64 (r6 l)]
def v6RRead (l : List UInt8) : AV := .tup [.agg (.int .i64 (z6 l 40) :: head6 l), .int .i64 (r6 l)]

theorem byt_tk {l : List UInt8} {p n i : Nat} (h : i < n) : byt (List.take n (List.drop p l)) i = byt l (p + i) := byt_part h
theorem capOf_f (l c : Nat) : capOf l c false = l + c := rfl

theorem fdiv16 (x : Int) : x.fdiv 16 = x / 16 := Int.fdiv_eq_ediv_of_nonneg _ (by omega)

def makes6 (cs ds : List AV) (n : Int) : Prop := adrV6 cs = true ∧ adrV6 ds = true ∧ 0 ≤ n ∧ n ≤ 65535
instance (cs ds : List AV) (n : Int) : Decidable (makes6 cs ds n) := by unfold makes6; infer_instance
def make6 (cs ds : List AV) (pr n : Int) : List UInt8 := if makes6 cs ds n then [96, 0, 0, 0, u8i (n / 256), u8i n, u8i pr, 64] ++ adrBytes cs ++ adrBytes ds else []
def eMk6 : GEnt := fun args h => match args with
  | [.agg cs, .agg ds, .int .u8 pr, .int .i64 n] => some (adrWf cs && (adrWf ds && decide (0 ≤ pr ∧ pr < 256)), .tup [slB h.length (make6 cs ds pr n), .bool (decide (makes6 cs ds n))], h ++ [ownB (make6 cs ds pr n)])
  | _ => none

end Go.Abs

end

section
/- What the document says of TCP's and UDP's segments. -/
set_option autoImplicit false
set_option linter.unusedVariables false
namespace Go.Abs

theorem fdiv16s (x : Int) : x.fdiv 16 = x / 16 := Int.fdiv_eq_ediv_of_nonneg _ (by omega)
def segR (p : Int) (l : List UInt8) : Int :=
  if p = 6 then (if l.length < 20 then 1 else if byt l 12 / 16 * 4 < 20 then 3 else if (l.length : Int) < byt l 12 / 16 * 4 then 3 else 0)
  else if p = 17 then (if l.length < 8 then 1 else if word l 4 < 8 then 3 else if (l.length : Int) < word l 4 then 3 else 0)
  else 6
def segZ (p : Int) (l : List UInt8) (x : Int) : Int := if segR p l = 0 then x else 0
def segF (p : Int) (l : List UInt8) : Int := if p = 6 then segZ p l (byt l 13) else 0
def segRead (p : Int) (l : List UInt8) : AV := .tup [.agg [.int .u16 (segZ p l (word l 0)), .int .u16 (segZ p l (word l 2)), .int .u8 (segF p l)], .int .i64 (segR p l)]
def segRRead (p : Int) (l : List UInt8) : AV := .tup [.agg [.int .i64 (segZ p l (word l 0)), .int .i64 (segZ p l (word l 2)), .int .u8 (segF p l)], .int .i64 (segR p l)]
def eSegR : GEnt := fun args h => match args with
  | [.int .u8 p, b] => some (bOk h b && decide (nOf b ≤ 1000000000000), segRead p (bOf h b), h)
  | _ => none
theorem segRead_N {p r : Int} {l : List UInt8} (h : segR p l = r) (h0 : r ≠ 0) : segRead p l = .tup [.agg [.int .u16 0, .int .u16 0, .int .u8 0], .int .i64 r] ∧ segRRead p l = .tup [.agg [.int .i64 0, .int .i64 0, .int .u8 0], .int .i64 r] := by
  have hf : segF p l = 0 := by unfold segF segZ; rw [h, if_neg h0]; split <;> rfl
  have hz : ∀ x, segZ p l x = 0 := fun x => by unfold segZ; rw [h, if_neg h0]
  unfold segRead segRRead
  rw [hf, hz, hz, h]; exact ⟨rfl, rfl⟩
theorem segRead_Y {p : Int} {l : List UInt8} (h : segR p l = 0) : segRead p l = .tup [.agg [.int .u16 (word l 0), .int .u16 (word l 2), .int .u8 (segF p l)], .int .i64 0] ∧ segRRead p l = .tup [.agg [.int .i64 (word l 0), .int .i64 (word l 2), .int .u8 (segF p l)], .int .i64 0] := by
  have hz : ∀ x, segZ p l x = x := fun x => by unfold segZ; rw [if_pos h]
  unfold segRead segRRead
  rw [hz, hz, h]; exact ⟨rfl, rfl⟩

def pseudoL (p n : Int) (cs ds : List AV) : List UInt8 := adrBytes cs ++ adrBytes ds ++ (if adrV6 cs = true then bigR n 4 ++ [0, 0, 0, u8i p] else [0, u8i p] ++ bigR n 2)
end Go.Abs

end

section
/- bazaar/addr.Bytes. -/
set_option autoImplicit false
set_option maxRecDepth 100000
set_option linter.unusedVariables false
set_option linter.unusedSimpArgs false
namespace Go.Proofs.Ytjkkhbeidhpghaa.L
open Go Go.Abs

noncomputable def hABytesT0 (x0 x1 x2 x3 x4 x5 x6 x7 x8 x9 x10 x11 x12 x13 x14 x15 : Int) : AHeap := [ABlk.cells [AV.bool true, AV.int IntKind.u8 x0, AV.int IntKind.u8 x1, AV.int IntKind.u8 x2, AV.int IntKind.u8 x3, AV.int IntKind.u8 x4, AV.int IntKind.u8 x5, AV.int IntKind.u8 x6, AV.int IntKind.u8 x7, AV.int IntKind.u8 x8, AV.int IntKind.u8 x9, AV.int IntKind.u8 x10, AV.int IntKind.u8 x11, AV.int IntKind.u8 x12, AV.int IntKind.u8 x13, AV.int IntKind.u8 x14, AV.int IntKind.u8 x15] 17 Md.own none, ABlk.cells [] 1 Md.ro none, ABlk.cells [AV.int IntKind.u8 x0, AV.int IntKind.u8 x1, AV.int IntKind.u8 x2, AV.int IntKind.u8 x3, AV.int IntKind.u8 x4, AV.int IntKind.u8 x5, AV.int IntKind.u8 x6, AV.int IntKind.u8 x7, AV.int IntKind.u8 x8, AV.int IntKind.u8 x9, AV.int IntKind.u8 x10, AV.int IntKind.u8 x11, AV.int IntKind.u8 x12, AV.int IntKind.u8 x13, AV.int IntKind.u8 x14, AV.int IntKind.u8 x15] 1 Md.own (some 1)]
theorem nfABytesT {R : Type} (x0 x1 x2 x3 x4 x5 x6 x7 x8 x9 x10 x11 x12 x13 x14 x15 : Int) (K : AV → AHeap → Option R) :
 qrun Try.prog [] 100 6 [] [] 40 [.agg (adrV true x0 x1 x2 x3 x4 x5 x6 x7 x8 x9 x10 x11 x12 x13 x14 x15)] [] K =
 K (AV.sl (some (2, 0)) 16 0 false) ((hABytesT0 x0 x1 x2 x3 x4 x5 x6 x7 x8 x9 x10 x11 x12 x13 x14 x15)) := by
  kernel_rfl

noncomputable def hABytesF0 (x0 x1 x2 x3 x4 x5 x6 x7 x8 x9 x10 x11 x12 x13 x14 x15 : Int) : AHeap := [ABlk.cells [AV.bool false, AV.int IntKind.u8 x0, AV.int IntKind.u8 x1, AV.int IntKind.u8 x2, AV.int IntKind.u8 x3, AV.int IntKind.u8 x4, AV.int IntKind.u8 x5, AV.int IntKind.u8 x6, AV.int IntKind.u8 x7, AV.int IntKind.u8 x8, AV.int IntKind.u8 x9, AV.int IntKind.u8 x10, AV.int IntKind.u8 x11, AV.int IntKind.u8 x12, AV.int IntKind.u8 x13, AV.int IntKind.u8 x14, AV.int IntKind.u8 x15] 17 Md.own none, ABlk.cells [] 1 Md.ro none, ABlk.cells [AV.int IntKind.u8 x0, AV.int IntKind.u8 x1, AV.int IntKind.u8 x2, AV.int IntKind.u8 x3] 1 Md.own (some 1)]
theorem nfABytesF {R : Type} (x0 x1 x2 x3 x4 x5 x6 x7 x8 x9 x10 x11 x12 x13 x14 x15 : Int) (K : AV → AHeap → Option R) :
 qrun Try.prog [] 100 6 [] [] 40 [.agg (adrV false x0 x1 x2 x3 x4 x5 x6 x7 x8 x9 x10 x11 x12 x13 x14 x15)] [] K =
 K (AV.sl (some (2, 0)) 4 0 false) ((hABytesF0 x0 x1 x2 x3 x4 x5 x6 x7 x8 x9 x10 x11 x12 x13 x14 x15)) := by
  kernel_rfl


theorem sABytes : SoundE Try.prog 40 (entF eBytes) := by
  refine canonR_sound fun args h v h' hg => ?_
  unfold eBytes at hg
  split at hg
  · rename_i cs
    simp only [Option.some.injEq, Prod.mk.injEq] at hg
    obtain ⟨hw, rfl, rfl⟩ := hg
    obtain ⟨v, x0, x1, x2, x3, x4, x5, x6, x7, x8, x9, x10, x11, x12, x13, x14, x15, rfl, b0, b1, b2, b3, b4, b5, b6, b7, b8, b9, b10, b11, b12, b13, b14, b15⟩ := adrWf_lit hw
    refine ⟨[.agg (adrV v x0 x1 x2 x3 x4 x5 x6 x7 x8 x9 x10 x11 x12 x13 x14 x15)], [], .cons _ _ _ _ _ _ _ (.flat _ _ rfl) (.nil _), ?_⟩
    cases v
    · refine ⟨_, _, Runs.ofT0 (find_nil _) (F := 100) (n := 6) (pr := []) (nfABytesF x0 x1 x2 x3 x4 x5 x6 x7 x8 x9 x10 x11 x12 x13 x14 x15 _), [some 2], _, rfl, denB (by simp) rfl (show [.int .u8 x0, .int .u8 x1, .int .u8 x2, .int .u8 x3] = bys [byteD (.int .u8 x0), byteD (.int .u8 x1), byteD (.int .u8 x2), byteD (.int .u8 x3)] from bytes_of (l := [.int .u8 x0, .int .u8 x1, .int .u8 x2, .int .u8 x3]) (by simp [isByteR]; omega)) rfl, ksOk1 _⟩
    · refine ⟨_, _, Runs.ofT0 (find_nil _) (F := 100) (n := 6) (pr := []) (nfABytesT x0 x1 x2 x3 x4 x5 x6 x7 x8 x9 x10 x11 x12 x13 x14 x15 _), [some 2], _, rfl, denB (by simp) rfl (show [.int .u8 x0, .int .u8 x1, .int .u8 x2, .int .u8 x3, .int .u8 x4, .int .u8 x5, .int .u8 x6, .int .u8 x7, .int .u8 x8, .int .u8 x9, .int .u8 x10, .int .u8 x11, .int .u8 x12, .int .u8 x13, .int .u8 x14, .int .u8 x15] = bys [byteD (.int .u8 x0), byteD (.int .u8 x1), byteD (.int .u8 x2), byteD (.int .u8 x3), byteD (.int .u8 x4), byteD (.int .u8 x5), byteD (.int .u8 x6), byteD (.int .u8 x7), byteD (.int .u8 x8), byteD (.int .u8 x9), byteD (.int .u8 x10), byteD (.int .u8 x11), byteD (.int .u8 x12), byteD (.int .u8 x13), byteD (.int .u8 x14), byteD (.int .u8 x15)] from bytes_of (l := [.int .u8 x0, .int .u8 x1, .int .u8 x2, .int .u8 x3, .int .u8 x4, .int .u8 x5, .int .u8 x6, .int .u8 x7, .int .u8 x8, .int .u8 x9, .int .u8 x10, .int .u8 x11, .int .u8 x12, .int .u8 x13, .int .u8 x14, .int .u8 x15]) (by simp [isByteR]; omega)) rfl, ksOk1 _⟩
  · simp at hg

end Go.Proofs.Ytjkkhbeidhpghaa.L

end

section
/- bazaar/bazaarref1.Bytes. -/
set_option autoImplicit false
set_option maxRecDepth 100000
set_option linter.unusedVariables false
set_option linter.unusedSimpArgs false
namespace Go.Proofs.Ytjkkhbeidhpghaa.L
open Go Go.Abs

noncomputable def hRBytesT0 (x0 x1 x2 x3 x4 x5 x6 x7 x8 x9 x10 x11 x12 x13 x14 x15 : Int) : AHeap := [ABlk.cells [AV.bool true, AV.int IntKind.u8 x0, AV.int IntKind.u8 x1, AV.int IntKind.u8 x2, AV.int IntKind.u8 x3, AV.int IntKind.u8 x4, AV.int IntKind.u8 x5, AV.int IntKind.u8 x6, AV.int IntKind.u8 x7, AV.int IntKind.u8 x8, AV.int IntKind.u8 x9, AV.int IntKind.u8 x10, AV.int IntKind.u8 x11, AV.int IntKind.u8 x12, AV.int IntKind.u8 x13, AV.int IntKind.u8 x14, AV.int IntKind.u8 x15] 17 Md.own none, ABlk.cells [] 1 Md.ro none, ABlk.cells [AV.int IntKind.u8 x0, AV.int IntKind.u8 x1, AV.int IntKind.u8 x2, AV.int IntKind.u8 x3, AV.int IntKind.u8 x4, AV.int IntKind.u8 x5, AV.int IntKind.u8 x6, AV.int IntKind.u8 x7, AV.int IntKind.u8 x8, AV.int IntKind.u8 x9, AV.int IntKind.u8 x10, AV.int IntKind.u8 x11, AV.int IntKind.u8 x12, AV.int IntKind.u8 x13, AV.int IntKind.u8 x14, AV.int IntKind.u8 x15] 1 Md.own (some 1)]
theorem nfRBytesT {R : Type} (x0 x1 x2 x3 x4 x5 x6 x7 x8 x9 x10 x11 x12 x13 x14 x15 : Int) (K : AV → AHeap → Option R) :
 qrun Try.prog [] 100 6 [] [] 22 [.agg (adrV true x0 x1 x2 x3 x4 x5 x6 x7 x8 x9 x10 x11 x12 x13 x14 x15)] [] K =
 K (AV.sl (some (2, 0)) 16 0 false) ((hRBytesT0 x0 x1 x2 x3 x4 x5 x6 x7 x8 x9 x10 x11 x12 x13 x14 x15)) := by
  kernel_rfl

noncomputable def hRBytesF0 (x0 x1 x2 x3 x4 x5 x6 x7 x8 x9 x10 x11 x12 x13 x14 x15 : Int) : AHeap := [ABlk.cells [AV.bool false, AV.int IntKind.u8 x0, AV.int IntKind.u8 x1, AV.int IntKind.u8 x2, AV.int IntKind.u8 x3, AV.int IntKind.u8 x4, AV.int IntKind.u8 x5, AV.int IntKind.u8 x6, AV.int IntKind.u8 x7, AV.int IntKind.u8 x8, AV.int IntKind.u8 x9, AV.int IntKind.u8 x10, AV.int IntKind.u8 x11, AV.int IntKind.u8 x12, AV.int IntKind.u8 x13, AV.int IntKind.u8 x14, AV.int IntKind.u8 x15] 17 Md.own none, ABlk.cells [] 1 Md.ro none, ABlk.cells [AV.int IntKind.u8 x0, AV.int IntKind.u8 x1, AV.int IntKind.u8 x2, AV.int IntKind.u8 x3] 1 Md.own (some 1)]
theorem nfRBytesF {R : Type} (x0 x1 x2 x3 x4 x5 x6 x7 x8 x9 x10 x11 x12 x13 x14 x15 : Int) (K : AV → AHeap → Option R) :
 qrun Try.prog [] 100 6 [] [] 22 [.agg (adrV false x0 x1 x2 x3 x4 x5 x6 x7 x8 x9 x10 x11 x12 x13 x14 x15)] [] K =
 K (AV.sl (some (2, 0)) 4 0 false) ((hRBytesF0 x0 x1 x2 x3 x4 x5 x6 x7 x8 x9 x10 x11 x12 x13 x14 x15)) := by
  kernel_rfl


theorem sRBytes : SoundE Try.prog 22 (entF eBytes) := by
  refine canonR_sound fun args h v h' hg => ?_
  unfold eBytes at hg
  split at hg
  · rename_i cs
    simp only [Option.some.injEq, Prod.mk.injEq] at hg
    obtain ⟨hw, rfl, rfl⟩ := hg
    obtain ⟨v, x0, x1, x2, x3, x4, x5, x6, x7, x8, x9, x10, x11, x12, x13, x14, x15, rfl, b0, b1, b2, b3, b4, b5, b6, b7, b8, b9, b10, b11, b12, b13, b14, b15⟩ := adrWf_lit hw
    refine ⟨[.agg (adrV v x0 x1 x2 x3 x4 x5 x6 x7 x8 x9 x10 x11 x12 x13 x14 x15)], [], .cons _ _ _ _ _ _ _ (.flat _ _ rfl) (.nil _), ?_⟩
    cases v
    · refine ⟨_, _, Runs.ofT0 (find_nil _) (F := 100) (n := 6) (pr := []) (nfRBytesF x0 x1 x2 x3 x4 x5 x6 x7 x8 x9 x10 x11 x12 x13 x14 x15 _), [some 2], _, rfl, denB (by simp) rfl (show [.int .u8 x0, .int .u8 x1, .int .u8 x2, .int .u8 x3] = bys [byteD (.int .u8 x0), byteD (.int .u8 x1), byteD (.int .u8 x2), byteD (.int .u8 x3)] from bytes_of (l := [.int .u8 x0, .int .u8 x1, .int .u8 x2, .int .u8 x3]) (by simp [isByteR]; omega)) rfl, ksOk1 _⟩
    · refine ⟨_, _, Runs.ofT0 (find_nil _) (F := 100) (n := 6) (pr := []) (nfRBytesT x0 x1 x2 x3 x4 x5 x6 x7 x8 x9 x10 x11 x12 x13 x14 x15 _), [some 2], _, rfl, denB (by simp) rfl (show [.int .u8 x0, .int .u8 x1, .int .u8 x2, .int .u8 x3, .int .u8 x4, .int .u8 x5, .int .u8 x6, .int .u8 x7, .int .u8 x8, .int .u8 x9, .int .u8 x10, .int .u8 x11, .int .u8 x12, .int .u8 x13, .int .u8 x14, .int .u8 x15] = bys [byteD (.int .u8 x0), byteD (.int .u8 x1), byteD (.int .u8 x2), byteD (.int .u8 x3), byteD (.int .u8 x4), byteD (.int .u8 x5), byteD (.int .u8 x6), byteD (.int .u8 x7), byteD (.int .u8 x8), byteD (.int .u8 x9), byteD (.int .u8 x10), byteD (.int .u8 x11), byteD (.int .u8 x12), byteD (.int .u8 x13), byteD (.int .u8 x14), byteD (.int .u8 x15)] from bytes_of (l := [.int .u8 x0, .int .u8 x1, .int .u8 x2, .int .u8 x3, .int .u8 x4, .int .u8 x5, .int .u8 x6, .int .u8 x7, .int .u8 x8, .int .u8 x9, .int .u8 x10, .int .u8 x11, .int .u8 x12, .int .u8 x13, .int .u8 x14, .int .u8 x15]) (by simp [isByteR]; omega)) rfl, ksOk1 _⟩
  · simp at hg

end Go.Proofs.Ytjkkhbeidhpghaa.L

end

section
/- bazaar/bazaarref1.From. -/
set_option autoImplicit false
set_option maxRecDepth 100000
set_option linter.unusedVariables false
set_option linter.unusedSimpArgs false
namespace Go.Proofs.Ytjkkhbeidhpghaa.L
open Go Go.Abs

end Go.Proofs.Ytjkkhbeidhpghaa.L

end

section
/- bazaar/addr.From. -/
set_option autoImplicit false
set_option maxRecDepth 100000
set_option linter.unusedVariables false
set_option linter.unusedSimpArgs false
namespace Go.Proofs.Ytjkkhbeidhpghaa.L
open Go Go.Abs

theorem nfAFrom16 {R : Type} (a b c d e f g i j k m n o p q r : UInt8) (K : AV → Option R) : qrun Try.prog [] 100 4 [] [] 45 [.sl (some (0, 0)) 16 0 false] [.cells [.int .u8 ((a.toNat : Nat) : Int), .int .u8 ((b.toNat : Nat) : Int), .int .u8 ((c.toNat : Nat) : Int), .int .u8 ((d.toNat : Nat) : Int), .int .u8 ((e.toNat : Nat) : Int), .int .u8 ((f.toNat : Nat) : Int), .int .u8 ((g.toNat : Nat) : Int), .int .u8 ((i.toNat : Nat) : Int), .int .u8 ((j.toNat : Nat) : Int), .int .u8 ((k.toNat : Nat) : Int), .int .u8 ((m.toNat : Nat) : Int), .int .u8 ((n.toNat : Nat) : Int), .int .u8 ((o.toNat : Nat) : Int), .int .u8 ((p.toNat : Nat) : Int), .int .u8 ((q.toNat : Nat) : Int), .int .u8 ((r.toNat : Nat) : Int)] 1 .far none] (fun v _ => K v) = K (.tup [.agg (adr16 [a, b, c, d, e, f, g, i, j, k, m, n, o, p, q, r] 0), .int .i64 0]) := by kernel_rfl
theorem nfAFrom4 {R : Type} (a b c d : UInt8) (K : AV → Option R) : qrun Try.prog [] 100 4 [] [] 45 [.sl (some (0, 0)) 4 0 false] [.cells [.int .u8 ((a.toNat : Nat) : Int), .int .u8 ((b.toNat : Nat) : Int), .int .u8 ((c.toNat : Nat) : Int), .int .u8 ((d.toNat : Nat) : Int)] 1 .far none] (fun v _ => K v) = K (.tup [.agg (adr4 [a, b, c, d] 0), .int .i64 0]) := by kernel_rfl

theorem sAFrom : SoundE Try.prog 45 (entF (eFrom 0 2)) := by
  refine canonV_sound fun args h v h' hg => ?_
  unfold eFrom at hg
  split at hg
  · rename_i b
    split at hg
    · rename_i hn
      simp only [Option.some.injEq, Prod.mk.injEq] at hg
      obtain ⟨hb, rfl, rfl⟩ := hg
      refine ⟨rfl, rfl, [slB 0 (bOf h b)], [farB (bOf h b)], .cons _ _ _ _ _ _ _ (bOk_canon hb 0) (.nil _), ?_⟩
      have hl := bOk_len hb
      rw [hn] at hl
      generalize bOf h b = l at hl
      obtain ⟨a, b, c, d, e, f, g, i, j, k, m, n, o, p, q, r, rfl⟩ := sixteen_of hl
      exact Runs.valT0 (find_nil _) (F := 100) (n := 4) (pr := []) (nfAFrom16 a b c d e f g i j k m n o p q r _)
    · rename_i hn
      simp only [Option.some.injEq, Prod.mk.injEq] at hg
      obtain ⟨hb, rfl, rfl⟩ := hg
      refine ⟨rfl, rfl, [slB 0 (bOf h b)], [farB (bOf h b)], .cons _ _ _ _ _ _ _ (bOk_canon hb 0) (.nil _), ?_⟩
      have hl := bOk_len hb
      rw [hn] at hl
      generalize bOf h b = l at hl
      obtain ⟨a, b, c, d, rfl⟩ := four_of hl
      exact Runs.valT0 (find_nil _) (F := 100) (n := 4) (pr := []) (nfAFrom4 a b c d _)
    · simp at hg
  · simp at hg

end Go.Proofs.Ytjkkhbeidhpghaa.L

end

section
/- bazaar/bazaarref1.Valid. -/
set_option autoImplicit false
set_option maxRecDepth 100000
set_option linter.unusedVariables false
set_option linter.unusedSimpArgs false
namespace Go.Proofs.Ytjkkhbeidhpghaa.L
open Go Go.Abs

theorem nfRValidT {R : Type} (x0 x1 x2 x3 x4 x5 x6 x7 x8 x9 x10 x11 x12 x13 x14 x15 : Int) (K : AV → Option R) :
 qrun Try.prog [] 100 6 [] [] 20 [.agg (adrV true x0 x1 x2 x3 x4 x5 x6 x7 x8 x9 x10 x11 x12 x13 x14 x15)] [] (fun v _ => K v) =
 K (AV.bool true) := by
  kernel_rfl

theorem nfRValidF {R : Type} (x0 x1 x2 x3 x4 x5 x6 x7 x8 x9 x10 x11 x12 x13 x14 x15 : Int) (K : AV → Option R) :
 qrun Try.prog [] 100 6 [] [] 20 [.agg (adrV false x0 x1 x2 x3 x4 x5 x6 x7 x8 x9 x10 x11 x12 x13 x14 x15)] [] (fun v _ => K v) =
 (if (intV (some (AV.int IntKind.u8 x4)) != 0) = true then
 K (AV.bool false)
 else (if (intV (some (AV.int IntKind.u8 x5)) != 0) = true then
 K (AV.bool false)
 else (if (intV (some (AV.int IntKind.u8 x6)) != 0) = true then
 K (AV.bool false)
 else (if (intV (some (AV.int IntKind.u8 x7)) != 0) = true then
 K (AV.bool false)
 else (if (intV (some (AV.int IntKind.u8 x8)) != 0) = true then
 K (AV.bool false)
 else (if (intV (some (AV.int IntKind.u8 x9)) != 0) = true then
 K (AV.bool false)
 else (if (intV (some (AV.int IntKind.u8 x10)) != 0) = true then
 K (AV.bool false)
 else (if (intV (some (AV.int IntKind.u8 x11)) != 0) = true then
 K (AV.bool false)
 else (if (intV (some (AV.int IntKind.u8 x12)) != 0) = true then
 K (AV.bool false)
 else (if (intV (some (AV.int IntKind.u8 x13)) != 0) = true then
 K (AV.bool false)
 else (if (intV (some (AV.int IntKind.u8 x14)) != 0) = true then
 K (AV.bool false)
 else (if (intV (some (AV.int IntKind.u8 x15)) != 0) = true then
 K (AV.bool false)
 else K (AV.bool true))))))))))))) := by
  kernel_rfl


theorem sRValid : SoundE Try.prog 20 (entF eValid) := by
  refine canonV_sound fun args h v h' hg => ?_
  unfold eValid at hg
  split at hg
  · rename_i cs
    simp only [Option.some.injEq, Prod.mk.injEq] at hg
    obtain ⟨hw, rfl, rfl⟩ := hg
    obtain ⟨v, x0, x1, x2, x3, x4, x5, x6, x7, x8, x9, x10, x11, x12, x13, x14, x15, rfl, b0, b1, b2, b3, b4, b5, b6, b7, b8, b9, b10, b11, b12, b13, b14, b15⟩ := adrWf_lit hw
    refine ⟨rfl, rfl, [.agg (adrV v x0 x1 x2 x3 x4 x5 x6 x7 x8 x9 x10 x11 x12 x13 x14 x15)], [], .cons _ _ _ _ _ _ _ (.flat _ _ rfl) (.nil _), ?_⟩
    cases v
    · refine Runs.valT0 (find_nil _) (F := 100) (n := 6) (pr := []) ?_
      rw [nfRValidF]
      have e : adrValid (adrV false x0 x1 x2 x3 x4 x5 x6 x7 x8 x9 x10 x11 x12 x13 x14 x15) = [AV.int .u8 x4, AV.int .u8 x5, AV.int .u8 x6, AV.int .u8 x7, AV.int .u8 x8, AV.int .u8 x9, AV.int .u8 x10, AV.int .u8 x11, AV.int .u8 x12, AV.int .u8 x13, AV.int .u8 x14, AV.int .u8 x15].all isZeroV := rfl
      rw [e]
      clear hw b0 b1 b2 b3 b4 b5 b6 b7 b8 b9 b10 b11 b12 b13 b14 b15 e
      by_cases h4 : x4 = 0
      case neg => exact (if_pos (by simpa using h4)).trans (by simp [h4])
      refine (if_neg (by simpa using h4)).trans ?_
      by_cases h5 : x5 = 0
      case neg => exact (if_pos (by simpa using h5)).trans (by simp [h5])
      refine (if_neg (by simpa using h5)).trans ?_
      by_cases h6 : x6 = 0
      case neg => exact (if_pos (by simpa using h6)).trans (by simp [h6])
      refine (if_neg (by simpa using h6)).trans ?_
      by_cases h7 : x7 = 0
      case neg => exact (if_pos (by simpa using h7)).trans (by simp [h7])
      refine (if_neg (by simpa using h7)).trans ?_
      by_cases h8 : x8 = 0
      case neg => exact (if_pos (by simpa using h8)).trans (by simp [h8])
      refine (if_neg (by simpa using h8)).trans ?_
      by_cases h9 : x9 = 0
      case neg => exact (if_pos (by simpa using h9)).trans (by simp [h9])
      refine (if_neg (by simpa using h9)).trans ?_
      by_cases h10 : x10 = 0
      case neg => exact (if_pos (by simpa using h10)).trans (by simp [h10])
      refine (if_neg (by simpa using h10)).trans ?_
      by_cases h11 : x11 = 0
      case neg => exact (if_pos (by simpa using h11)).trans (by simp [h11])
      refine (if_neg (by simpa using h11)).trans ?_
      by_cases h12 : x12 = 0
      case neg => exact (if_pos (by simpa using h12)).trans (by simp [h12])
      refine (if_neg (by simpa using h12)).trans ?_
      by_cases h13 : x13 = 0
      case neg => exact (if_pos (by simpa using h13)).trans (by simp [h13])
      refine (if_neg (by simpa using h13)).trans ?_
      by_cases h14 : x14 = 0
      case neg => exact (if_pos (by simpa using h14)).trans (by simp [h14])
      refine (if_neg (by simpa using h14)).trans ?_
      by_cases h15 : x15 = 0
      case neg => exact (if_pos (by simpa using h15)).trans (by simp [h15])
      refine (if_neg (by simpa using h15)).trans ?_
      simp [h4, h5, h6, h7, h8, h9, h10, h11, h12, h13, h14, h15]
    · refine Runs.valT0 (find_nil _) (F := 100) (n := 6) (pr := []) ?_
      rw [nfRValidT]
      rfl
  · simp at hg

end Go.Proofs.Ytjkkhbeidhpghaa.L

end

section
/- bazaaralike's Round. -/
set_option autoImplicit false
set_option maxRecDepth 100000
set_option linter.unusedVariables false
namespace Go.Proofs.Ytjkkhbeidhpghaa.L
open Go Go.Abs

def eRound : GEnt := fun args h => match args with
  | [.int .i64 k, .int .i64 n] => some (decide (0 < n ∧ n < 4611686018427387904), .int .i64 (k % n), h)
  | _ => none

theorem nfRound {R : Type} (k n : Int) (K : AV → Option R) : abody Try.prog (deepC Try.prog [] 100 4) (mixLS [] (autoLS Try.prog (deepC Try.prog [] 100 4) 100 4 (bodyOf Try.prog 16))) 16 [.int .i64 k, .int .i64 n] [] (fun v _ => K v) =
 if n = 0 then none else if n = 0 then none else K (.int .i64 ((IntKind.i64.wrap (k.tmod n + n)).tmod n)) := by
  kernel_rfl

theorem round_eq {k n : Int} (h : 0 < n ∧ n < 4611686018427387904) : (IntKind.i64.wrap (k.tmod n + n)).tmod n = k % n := by
  have hd := Int.tmod_eq_emod (a := k) (b := n)
  have he := Int.emod_nonneg k (show n ≠ 0 by omega)
  have hl := Int.emod_lt_of_pos k h.1
  have hn : ((n.natAbs : Nat) : Int) = n := by omega
  split at hd
  · rw [hd, wrapI64 (by omega), Int.tmod_eq_emod_of_nonneg (by omega), Int.add_emod_right, Int.sub_emod]
    simp
  · rw [hd, hn, wrapI64 (by omega), Int.tmod_eq_emod_of_nonneg (by omega), Int.sub_add_cancel, Int.emod_emod]

theorem sRound : SoundE Try.prog 16 (entF eRound) := by
  refine canonV_sound fun args h v h' hg => ?_
  unfold eRound at hg
  split at hg
  · rename_i k n
    simp only [Option.some.injEq, Prod.mk.injEq, decide_eq_true_eq] at hg
    obtain ⟨hn, rfl, rfl⟩ := hg
    refine ⟨rfl, rfl, [.int .i64 k, .int .i64 n], [], .cons _ _ _ _ _ _ _ (.flat _ _ rfl) (.cons _ _ _ _ _ _ _ (.flat _ _ rfl) (.nil _)), ?_⟩
    refine Runs.val0 (find_nil _) (F := 100) (n := 4) ?_
    rw [nfRound, if_neg (by omega), if_neg (by omega), round_eq hn]
  · simp at hg

end Go.Proofs.Ytjkkhbeidhpghaa.L

end

section
/- A flow, a server of so many. -/
set_option autoImplicit false
set_option maxRecDepth 100000
set_option linter.unusedVariables false
set_option linter.unusedSimpArgs false
namespace Go.Proofs.Ytjkkhbeidhpghaa.L
open Go Go.Abs

noncomputable def tRnd : Tbl := [(16, entF eRound)]
theorem tRndOk : ∀ f E, tRnd.find f = some E → SoundE Try.prog f E := find_cons sRound (find_nil _)
theorem nfKeyT {R : Type} (n : Int) (v : Bool) (K : AV → Option R) :
 qrun Try.prog tRnd 100 6 [] [] 9 [.int .i64 n, .bool v, .bool true] [] (fun v _ => K v) =
 K (AV.agg [AV.int IntKind.u8 17, AV.bool v, AV.int IntKind.u8 10, AV.int IntKind.u8 (IntKind.u8.wrap ((IntKind.u32.wrap (n % 1073741824)).fdiv 65536)), AV.int IntKind.u8 (IntKind.u8.wrap ((IntKind.u32.wrap (n % 1073741824)).fdiv 256)), AV.int IntKind.u8 (IntKind.u8.wrap (IntKind.u32.wrap (n % 1073741824))), AV.int IntKind.u8 0, AV.int IntKind.u8 0, AV.int IntKind.u8 0, AV.int IntKind.u8 0, AV.int IntKind.u8 0, AV.int IntKind.u8 0, AV.int IntKind.u8 0, AV.int IntKind.u8 0, AV.int IntKind.u8 0, AV.int IntKind.u8 0, AV.int IntKind.u8 0, AV.int IntKind.u8 0, AV.bool v, AV.int IntKind.u8 192, AV.int IntKind.u8 168, AV.int IntKind.u8 0, AV.int IntKind.u8 1, AV.int IntKind.u8 0, AV.int IntKind.u8 0, AV.int IntKind.u8 0, AV.int IntKind.u8 0, AV.int IntKind.u8 0, AV.int IntKind.u8 0, AV.int IntKind.u8 0, AV.int IntKind.u8 0, AV.int IntKind.u8 0, AV.int IntKind.u8 0, AV.int IntKind.u8 0, AV.int IntKind.u8 0, AV.int IntKind.u16 (IntKind.u16.wrap (IntKind.u32.wrap (1000 + (IntKind.u32.wrap (n % 1073741824)).tmod 50000))), AV.int IntKind.u16 80]) := by
  kernel_rfl

theorem nfKeyF {R : Type} (n : Int) (v : Bool) (K : AV → Option R) :
 qrun Try.prog tRnd 100 6 [] [] 9 [.int .i64 n, .bool v, .bool false] [] (fun v _ => K v) =
 K (AV.agg [AV.int IntKind.u8 6, AV.bool v, AV.int IntKind.u8 10, AV.int IntKind.u8 (IntKind.u8.wrap ((IntKind.u32.wrap (n % 1073741824)).fdiv 65536)), AV.int IntKind.u8 (IntKind.u8.wrap ((IntKind.u32.wrap (n % 1073741824)).fdiv 256)), AV.int IntKind.u8 (IntKind.u8.wrap (IntKind.u32.wrap (n % 1073741824))), AV.int IntKind.u8 0, AV.int IntKind.u8 0, AV.int IntKind.u8 0, AV.int IntKind.u8 0, AV.int IntKind.u8 0, AV.int IntKind.u8 0, AV.int IntKind.u8 0, AV.int IntKind.u8 0, AV.int IntKind.u8 0, AV.int IntKind.u8 0, AV.int IntKind.u8 0, AV.int IntKind.u8 0, AV.bool v, AV.int IntKind.u8 192, AV.int IntKind.u8 168, AV.int IntKind.u8 0, AV.int IntKind.u8 1, AV.int IntKind.u8 0, AV.int IntKind.u8 0, AV.int IntKind.u8 0, AV.int IntKind.u8 0, AV.int IntKind.u8 0, AV.int IntKind.u8 0, AV.int IntKind.u8 0, AV.int IntKind.u8 0, AV.int IntKind.u8 0, AV.int IntKind.u8 0, AV.int IntKind.u8 0, AV.int IntKind.u8 0, AV.int IntKind.u16 (IntKind.u16.wrap (IntKind.u32.wrap (1000 + (IntKind.u32.wrap (n % 1073741824)).tmod 50000))), AV.int IntKind.u16 80]) := by
  kernel_rfl

theorem nfDip {R : Type} (n : Int) (v : Bool) (K : AV → Option R) :
 qrun Try.prog tRnd 100 6 [] [] 10 [.int .i64 n, .bool v] [] (fun v _ => K v) =
 K (AV.agg [AV.bool v, AV.int IntKind.u8 172, AV.int IntKind.u8 16, AV.int IntKind.u8 0, AV.int IntKind.u8 (IntKind.u8.wrap (IntKind.i64.wrap (1 + n % 200))), AV.int IntKind.u8 0, AV.int IntKind.u8 0, AV.int IntKind.u8 0, AV.int IntKind.u8 0, AV.int IntKind.u8 0, AV.int IntKind.u8 0, AV.int IntKind.u8 0, AV.int IntKind.u8 0, AV.int IntKind.u8 0, AV.int IntKind.u8 0, AV.int IntKind.u8 0, AV.int IntKind.u8 0, AV.int IntKind.u16 (IntKind.u16.wrap (IntKind.i64.wrap (8000 + n % 1000)))]) := by
  kernel_rfl


theorem sKey : SoundE Try.prog 9 (entF eKey) := by
  refine canonV_sound fun args h v h' hg => ?_
  unfold eKey at hg
  split at hg
  · rename_i n v u
    simp only [Option.some.injEq, Prod.mk.injEq, true_and] at hg
    obtain ⟨rfl, rfl⟩ := hg
    refine ⟨rfl, rfl, [.int .i64 n, .bool v, .bool u], [], .cons _ _ _ _ _ _ _ (.flat _ _ rfl) (.cons _ _ _ _ _ _ _ (.flat _ _ rfl) (.cons _ _ _ _ _ _ _ (.flat _ _ rfl) (.nil _))), ?_⟩
    have w0 : IntKind.u32.wrap (n % 1073741824) = n % 1073741824 := wrapU32 (by omega)
    have w1 : IntKind.u8.wrap ((n % 1073741824).fdiv 65536) = kb1 n := by rw [wrapU8', Int.fdiv_eq_ediv_of_nonneg _ (by omega)]; rfl
    have w2 : IntKind.u8.wrap ((n % 1073741824).fdiv 256) = kb2 n := by rw [wrapU8', Int.fdiv_eq_ediv_of_nonneg _ (by omega)]; rfl
    have w3 : IntKind.u8.wrap (n % 1073741824) = kb3 n := by rw [wrapU8']; rfl
    have w4 : IntKind.u16.wrap (IntKind.u32.wrap (1000 + (n % 1073741824).tmod 50000)) = kport n := by
      rw [Int.tmod_eq_emod_of_nonneg (by omega), wrapU32 (by omega), wrapU16 (by omega)]; rfl
    cases u
    · refine Runs.valT0 tRndOk (F := 100) (n := 6) (pr := []) ?_
      rw [nfKeyF, w0, w1, w2, w3, w4]
      rfl
    · refine Runs.valT0 tRndOk (F := 100) (n := 6) (pr := []) ?_
      rw [nfKeyT, w0, w1, w2, w3, w4]
      rfl
  · simp at hg

theorem sDip : SoundE Try.prog 10 (entF eDip) := by
  refine canonV_sound fun args h v h' hg => ?_
  unfold eDip at hg
  split at hg
  · rename_i n v
    simp only [Option.some.injEq, Prod.mk.injEq, true_and] at hg
    obtain ⟨rfl, rfl⟩ := hg
    refine ⟨rfl, rfl, [.int .i64 n, .bool v], [], .cons _ _ _ _ _ _ _ (.flat _ _ rfl) (.cons _ _ _ _ _ _ _ (.flat _ _ rfl) (.nil _)), ?_⟩
    have w1 : IntKind.u8.wrap (IntKind.i64.wrap (1 + n % 200)) = db3 n := by rw [wrapI64 (by omega), wrapU8 (by omega)]; rfl
    have w2 : IntKind.u16.wrap (IntKind.i64.wrap (8000 + n % 1000)) = dport n := by rw [wrapI64 (by omega), wrapU16 (by omega)]; rfl
    refine Runs.valT0 tRndOk (F := 100) (n := 6) (pr := []) ?_
    rw [nfDip, w1, w2]
    rfl
  · simp at hg

end Go.Proofs.Ytjkkhbeidhpghaa.L

namespace Go.Abs

theorem u8i_val {x : Int} (h : 0 ≤ x ∧ x < 256) : ((u8i x).toNat : Int) = x := by rw [u8i_toNat]; omega
def kSrcB (n : Int) : List UInt8 := [10, u8i (kb1 n), u8i (kb2 n), u8i (kb3 n), 0, 0, 0, 0, 0, 0, 0, 0, 0, 0, 0, 0]
def kDstB : List UInt8 := [192, 168, 0, 1, 0, 0, 0, 0, 0, 0, 0, 0, 0, 0, 0, 0]
def dAdrB (m : Int) : List UInt8 := [172, 16, 0, u8i (db3 m), 0, 0, 0, 0, 0, 0, 0, 0, 0, 0, 0, 0]
theorem kSrc_B (v : Bool) (n : Int) : kSrc v n = .bool v :: bys (kSrcB n) := by
  simp [kSrc, adrV, kSrcB, bys, u8i_val (kb1_range n), u8i_val (kb2_range n), u8i_val (kb3_range n)]
theorem kDst_B (v : Bool) : kDst v = .bool v :: bys kDstB := by simp [kDst, adrV, kDstB, bys]
theorem dAdr_B (v : Bool) (m : Int) : dAdr v m = .bool v :: bys (dAdrB m) := by
  have := db3_range m
  simp [dAdr, adrV, dAdrB, bys, u8i_val (x := db3 m) (by omega)]

end Go.Abs

end

section
/- IPv4's packets. -/
set_option autoImplicit false
set_option linter.unusedVariables false
set_option linter.unusedSimpArgs false
namespace Go.Abs

def hdO (w : Nat) (L : Int) (p : UInt8) (C : Int) (S D O : List UInt8) : List UInt8 := [u8i (69 + w), 0, u8i (L / 256), u8i L, 0, 0, 64, 0, 64, p, u8i (C / 256), u8i C] ++ S ++ D ++ O
def pkO (w : Nat) (L : Int) (p : UInt8) (C : Int) (S D O d : List UInt8) : List UInt8 := hdO w L p C S D O ++ d

theorem wsum_hdO {w : Nat} (hw : w ≤ 10) (L : Int) (p : UInt8) : ∃ K : Int, 0 < K ∧ ∀ (C : Int) (S D O : List UInt8), 0 ≤ C ∧ C < 65536 → S.length = 4 → D.length = 4 → wsum (hdO w L p C S D O) = K + C + wsum S + wsum D + wsum O := by
  refine ⟨wsum [u8i (69 + w), 0, u8i (L / 256), u8i L, 0, 0, 64, 0, 64, p], ?_, ?_⟩
  · have h1 := u8i_toNat (69 + w)
    simp only [wsum]
    omega
  · intro C S D O hC hS hD
    unfold hdO
    rw [wsum_append _ _ (by simp [hS, hD]), wsum_append _ _ (by simp [hS]), wsum_append _ _ (by simp)]
    have h1 := u8i_toNat (C / 256)
    have h2 := u8i_toNat C
    simp only [wsum]
    omega
theorem chkI_zero (l : List UInt8) : chkI l = 0 ↔ wsum l % 65535 = 0 ∧ 0 < wsum l := by
  have := wsum_range l
  unfold chkI sumI foldI
  split <;> omega
theorem hdO_make {w : Nat} {L : Int} {p : UInt8} {S D O : List UInt8} (hw : w ≤ 10) (hS : S.length = 4) (hD : D.length = 4) : chkI (hdO w L p (chkI (hdO w L p 0 S D O)) S D O) = 0 := by
  obtain ⟨K, hK, e⟩ := wsum_hdO hw L p
  have hr := chkI_range (hdO w L p 0 S D O)
  rw [chkI_zero, e _ _ _ _ hr hS hD]
  have h0 := e 0 S D O (by omega) hS hD
  have h1 := wsum_range (hdO w L p 0 S D O)
  have h2 := foldI_mod (n := 0 + wsum (hdO w L p 0 S D O)) (by omega)
  have r1 := (wsum_range S).1
  have r2 := (wsum_range D).1
  have r3 := (wsum_range O).1
  unfold chkI sumI at *
  omega

theorem four_of' {l : List UInt8} (h : l.length = 4) : ∃ a b c d, l = [a, b, c, d] := by
  match l, h with
  | [a, b, c, d], _ => exact ⟨a, b, c, d, rfl⟩
theorem hdO_length {w : Nat} {L : Int} {p : UInt8} {C : Int} {S D O : List UInt8} (hS : S.length = 4) (hD : D.length = 4) (hO : O.length = 4 * w) : (hdO w L p C S D O).length = 20 + 4 * w := by simp [hdO, hS, hD, hO]; omega
theorem pkO_length {w : Nat} {L : Int} {p : UInt8} {C : Int} {S D O d : List UInt8} (hS : S.length = 4) (hD : D.length = 4) (hO : O.length = 4 * w) : (pkO w L p C S D O d).length = 20 + 4 * w + d.length := by simp [pkO, hdO_length hS hD hO]

def Z12 : List UInt8 := [0, 0, 0, 0, 0, 0, 0, 0, 0, 0, 0, 0]
theorem pkO_read {w : Nat} {L : Int} {p : UInt8} {C : Int} {S D O d : List UInt8} (hw : w ≤ 10) (hS : S.length = 4) (hD : D.length = 4) (hO : O.length = 4 * w) (hL : 20 + 4 * (w : Int) ≤ L ∧ L ≤ 65535 ∧ L ≤ 20 + 4 * (w : Int) + d.length) (hp : p = 6 ∨ p = 17)
    (hv : chkI (hdO w L p C S D O) = 0) :
    r4 (pkO w L p C S D O d) = 0 ∧ head4 (pkO w L p C S D O d) = [.int .i64 (20 + 4 * (w : Int)), .int .i64 L, .int .u8 p.toNat] ++ (.bool false :: bys (S ++ Z12)) ++ (.bool false :: bys (D ++ Z12)) := by
  have hlen : (pkO w L p C S D O d).length = 20 + 4 * w + d.length := pkO_length hS hD hO
  have b0 : byt (pkO w L p C S D O d) 0 = 69 + w := by
    show ((u8i (69 + w)).toNat : Int) = _
    rw [u8i_toNat]; omega
  have b2 : word (pkO w L p C S D O d) 2 = L := by
    show ((u8i (L / 256)).toNat : Int) * 256 + ((u8i L).toNat : Int) = L
    rw [u8i_toNat, u8i_toNat]; omega
  have b6 : word (pkO w L p C S D O d) 6 = 16384 := by
    show ((64 : UInt8).toNat : Int) * 256 + ((0 : UInt8).toNat : Int) = 16384
    decide
  have b9 : byt (pkO w L p C S D O d) 9 = p.toNat := rfl
  have hpp : (p.toNat : Int) = 6 ∨ (p.toNat : Int) = 17 := by rcases hp with rfl | rfl <;> simp
  have hs : s4 (pkO w L p C S D O d) = 20 + 4 * (w : Int) := by unfold s4; rw [b0]; omega
  have ht : (pkO w L p C S D O d).take (s4 (pkO w L p C S D O d)).toNat = hdO w L p C S D O := by
    rw [hs]; unfold pkO
    exact List.take_left' (by rw [hdO_length hS hD hO]; omega)
  have hr : r4 (pkO w L p C S D O d) = 0 := by
    unfold r4
    rw [ht, hv, b0, b2, b6, b9, hlen, hs, if_neg (by omega), if_neg (by omega), if_neg (by omega), if_neg (by omega), if_neg (by omega), if_neg (by omega), if_neg (by omega), if_neg (by omega)]
  refine ⟨hr, ?_⟩
  obtain ⟨s0, s1, s2, s3, rfl⟩ := four_of' hS
  obtain ⟨t0, t1, t2, t3, rfl⟩ := four_of' hD
  unfold head4 adrZ4 z4
  simp only [hr, hs, b2, b9, if_true]
  rfl
theorem bigR_two (v : Int) : bigR v 2 = [u8i (v / 256), u8i v] := by
  show [u8i (v.fdiv 256), u8i (v.fdiv 1)] = _
  rw [Int.fdiv_eq_ediv_of_nonneg _ (by omega), Int.fdiv_eq_ediv_of_nonneg _ (by omega), Int.ediv_one]
theorem pkO_make {n pr : Int} {X Y S D : List UInt8} (hn : 0 ≤ n ∧ n ≤ 65515) (hX : X.take 4 = S) (hY : Y.take 4 = D) : makes4 (.bool false :: bys X) (.bool false :: bys Y) n ∧
    (S.length = 4 → D.length = 4 → make4 (.bool false :: bys X) (.bool false :: bys Y) pr n = hdO 0 (20 + n) (u8i pr) (chkI (hdO 0 (20 + n) (u8i pr) 0 S D [])) S D []) := by
  have hm : makes4 (.bool false :: bys X) (.bool false :: bys Y) n := ⟨rfl, rfl, hn.1, hn.2⟩
  refine ⟨hm, fun hS hD => ?_⟩
  unfold make4
  rw [if_pos hm, adrB_F, adrB_F, hX, hY]
  obtain ⟨s0, s1, s2, s3, rfl⟩ := four_of' hS
  obtain ⟨t0, t1, t2, t3, rfl⟩ := four_of' hD
  unfold hdr4
  rw [bigR_two]
  rfl
end Go.Abs

end

section
/- Flows' and servers' bytes; packets that are made. -/
set_option autoImplicit false
set_option linter.unusedVariables false
set_option linter.unusedSimpArgs false
namespace Go.Abs

end Go.Abs

end
