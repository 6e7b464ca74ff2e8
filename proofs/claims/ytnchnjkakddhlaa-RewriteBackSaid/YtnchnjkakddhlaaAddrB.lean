/- Texts that stand together: PutKit, AddrKit, FourKit, SixKit, SegKit, ABytes, RBytes, RFrom, AFrom, RValid, Round, KeyDip, Pk4Kit, PktKit. -/
import Derived.Test.YtnchnjkakddhlaaBase
import Derived.Test.YtnchnjkakddhlaaProg
section
/- Numbers put into bytes. -/
set_option autoImplicit false
set_option linter.unusedVariables false
set_option linter.unusedSimpArgs false
namespace Go.Abs
variable {P : Program}

def ziA (v : Int) : Nat → List UInt8
 | 0 => []
 | n + 1 => u8i (v.fdiv (256 ^ n)) :: ziA v n
@[simp] theorem zne (v : Int) : ∀ n, (ziA v n).length = n
 | 0 => rfl
 | n + 1 => by simp [ziA, zne v n]

theorem zmL (v : Int) : ∀ n, ziA v (n + 1) = ziA (v.fdiv 256) n ++ [u8i v]
 | 0 => by simp [ziA]
 | n + 1 => by
  rw [ziA, zmL v n, ziA]
  have hp : (0 : Int) < 256 ^ n := Int.pow_pos (by omega)
  rw [List.cons_append]
  congr 2
  rw [Int.fdiv_eq_ediv_of_nonneg _ (by rw [Int.pow_succ]; omega), Int.fdiv_eq_ediv_of_nonneg _ (by omega), Int.fdiv_eq_ediv_of_nonneg _ (by omega), Int.pow_succ, Int.mul_comm, Int.ediv_ediv, if_neg (by omega), Int.sub_zero]

def zg0 : List UInt8 → Nat → Nat → Int → List UInt8
 | l, _, 0, _ => l
 | l, p, n + 1, v => zg0 (l.set (p + n) (u8i v)) p n (v.fdiv 256)
theorem zjf : ∀ (n : Nat) (l : List UInt8) (p : Nat) (v : Int), p + n ≤ l.length → zg0 l p n v = l.take p ++ ziA v n ++ l.drop (p + n)
 | 0, l, p, v, h => by simp [zg0, ziA]
 | n + 1, l, p, v, h => by
  rw [zg0, zjf n _ p _ (by simp; omega), zmL]
  have e1 : (l.set (p + n) (u8i v)).take p = l.take p := by rw [List.take_set_of_le (by omega)]
  have e2 : (l.set (p + n) (u8i v)).drop (p + n) = u8i v :: l.drop (p + (n + 1)) := by
   rw [List.drop_set, if_neg (by omega), Nat.sub_self, List.drop_eq_getElem_cons (by omega)]
   rfl
  rw [e1, e2]
  simp

def zcz (l : List UInt8) (p : Int) (sz : Nat) (v : Int) : List UInt8 := if 0 ≤ p ∧ p + sz ≤ (l.length : Int) then l.take p.toNat ++ ziA v sz ++ l.drop (p.toNat + sz) else l
@[simp] theorem zbz (l : List UInt8) (p : Int) (sz : Nat) (v : Int) : (zcz l p sz v).length = l.length := by
 unfold zcz
 split
 · simp; omega
 · rfl

@[simp] theorem zbl (k : IntKind) (n : Int) : zad (some (.int k n)) = n := rfl
@[simp] theorem zyN (b : Bool) : zbZ (some (.bool b)) = b := rfl
@[simp] theorem zxG (k : IntKind) (n : Int) : zaI k (some (.int k n)) = true := by simp [zaI]
theorem zb6 (l : List UInt8) : List.take (l.length * 1) (bys l) = bys l := by simp

@[simp] theorem zla (k : IntKind) (x : UInt8) : zaA (.int k ((x.toNat : Nat) : Int)) = x := by simp [zaA]
theorem zc9 (v : Int) : ziA v 2 = [u8i (v.fdiv 256), u8i (v.fdiv 1)] := rfl
theorem zdi (v : Int) : ziA v 4 = [u8i (v.fdiv 16777216), u8i (v.fdiv 65536), u8i (v.fdiv 256), u8i (v.fdiv 1)] := rfl
def zcf : List UInt8 → Nat → List UInt8 → List UInt8
 | l, _, [] => l
 | l, p, x :: xs => zcf (l.set p x) (p + 1) xs
theorem zeH : ∀ (xs l : List UInt8) (p : Nat), p + xs.length ≤ l.length → zcf l p xs = l.take p ++ xs ++ l.drop (p + xs.length)
 | [], l, p, h => by simp [zcf]
 | x :: xs, l, p, h => by
  simp only [List.length_cons] at h
  rw [zcf, zeH xs _ _ (by simp; omega)]
  have e1 : (l.set p x).take (p + 1) = l.take p ++ [x] := by
   rw [List.set_eq_take_append_cons_drop, if_pos (by omega), List.take_append, List.take_of_length_le (by simp; omega)]
   have : (List.take p l).length = p := by simp; omega
   rw [this]; simp
  have e2 : (l.set p x).drop (p + 1 + xs.length) = l.drop (p + (x :: xs).length) := by
   rw [List.drop_set, if_pos (by omega)]
   congr 1; simp; omega
  rw [e1, e2]; simp

theorem zBi (q i : Nat) (j : Int) (hj : j = i) (hq : q ≤ 1000000000000) (hi : i ≤ 8) : IntKind.i64.wrap ((q : Int) + j) = ((q + i : Nat) : Int) := by
 subst hj
 rw [zao (by omega)]; omega
theorem zBd (q i : Nat) : 0 + ((q + i : Nat) : Int).toNat * 1 = q + i := by omega

theorem zzC {i k j : Nat} (h : zdh [i] k = some j) : k = i ∧ j = 0 := by
 simp only [zdh] at h
 split at h
 · rename_i e; simp at h; exact ⟨e.symm, h.symm⟩
 · simp at h

theorem ztu {f : FuncId} {args : Nat → List AV} {h : zaa} {i : Nat} {vs vs' : List AV} {e : Nat} {par : Option Nat} {v : AV} (hb : h[i]? = some (.cells vs e .own par)) (hpar : par ≠ some i)
 (ha : ∀ i ρ, ρ i = some 0 → ARs ρ (args i) (args 0)) (hr : Runs P f (args 0) [.cells vs e .own none] v [.cells vs' e .own none]) (hf : AV.frees vs' = true) (hv : v.free = true) (hfv : AV.frees vs = true := by first | rfl | simp) :
 ∃ q, zkp P f (args i) (zc4 h q) v ((zc4 h par).set i (.cells vs' e .own none)) := by
 have hi := (List.getElem?_eq_some_iff.1 hb).1
 have hb2 : (zc4 h par)[i]? = some (.cells vs e .own par) := by rw [zmg hpar]; exact hb
 refine ⟨par, [i], [], args 0, [.cells vs e .own none], v, [.cells vs' e .own none], [.cells vs' e .own none], [], by simp, by simp, by simp, ha _ _ (by simp [zdh]), ?_, ?_, hr, ?_, .nil, .free _ hv, by simp [zdG]⟩
 · exact .cons _ _ _ _ _ hb2 (.cells _ _ _ _ _ _ (.free _ hfv) fun p j hp hq => by
     obtain ⟨rfl, rfl⟩ := zzC hq
     exact absurd hp hpar) .nil
 · intro k hk b hb'
   simp only [List.mem_singleton] at hk
   subst hk
   rw [hb2] at hb'; cases hb'
   refine ⟨rfl, fun q c hq hc => ?_⟩
   simp only [ABlk.par] at hq
   subst hq
   rw [zc4, List.getElem?_set] at hc
   split at hc
   · split at hc
     · cases hc; rfl
     · simp at hc
   · rename_i hne; exact absurd rfl hne
 · exact .cons _ _ _ _ _ rfl (.row hf (by simp)) .nil

end Go.Abs

end

section
/- Addresses as values; bytes at places. -/
set_option autoImplicit false
set_option linter.unusedVariables false
set_option linter.unusedSimpArgs false
namespace Go.Abs
variable {P : Program}

def zbx (v : Bool) (x0 x1 x2 x3 x4 x5 x6 x7 x8 x9 x10 x11 x12 x13 x14 x15 : Int) : List AV :=
 [.bool v, .int .u8 x0, .int .u8 x1, .int .u8 x2, .int .u8 x3, .int .u8 x4, .int .u8 x5, .int .u8 x6, .int .u8 x7, .int .u8 x8, .int .u8 x9, .int .u8 x10, .int .u8 x11, .int .u8 x12, .int .u8 x13, .int .u8 x14, .int .u8 x15]
def zdm (l : List UInt8) (p : Nat) : List AV := zbx true (byt l p) (byt l (p + 1)) (byt l (p + 2)) (byt l (p + 3)) (byt l (p + 4)) (byt l (p + 5)) (byt l (p + 6)) (byt l (p + 7)) (byt l (p + 8)) (byt l (p + 9)) (byt l (p + 10)) (byt l (p + 11)) (byt l (p + 12)) (byt l (p + 13)) (byt l (p + 14)) (byt l (p + 15))
def zhr (l : List UInt8) (p : Nat) : List AV := zbx false (byt l p) (byt l (p + 1)) (byt l (p + 2)) (byt l (p + 3)) 0 0 0 0 0 0 0 0 0 0 0 0

mutual
@[simp] theorem AV.beq_self : ∀ a : AV, a.beq a = true
 | .any => rfl
 | .bool b => by simp [AV.beq]
 | .int k n => by simp [AV.beq]
 | .str s => by simp [AV.beq]
 | .ptr a => by simp [AV.beq]
 | .sl a l c e => by simp [AV.beq]
 | .map r => by simp [AV.beq]
 | .fn f c => by simp [AV.beq, AV.beqs_self c]
 | .nilFn => rfl
 | .agg l => by simp [AV.beq, AV.beqs_self l]
 | .tup l => by simp [AV.beq, AV.beqs_self l]
@[simp] theorem AV.beqs_self : ∀ l : List AV, AV.beqs l l = true
 | [] => rfl
 | a :: l => by simp [AV.beqs, AV.beq_self a, AV.beqs_self l]
end

theorem zfQ {l : List UInt8} (h : l.length = 4) : ∃ a b c d, l = [a, b, c, d] := by
 match l, h with
 | [a, b, c, d], _ => exact ⟨a, b, c, d, rfl⟩
theorem zdT {l : List UInt8} (h : l.length = 16) : ∃ a b c d e f g i j k m n o p q r, l = [a, b, c, d, e, f, g, i, j, k, m, n, o, p, q, r] := by
 match l, h with
 | [a, b, c, d, e, f, g, i, j, k, m, n, o, p, q, r], _ => exact ⟨a, b, c, d, e, f, g, i, j, k, m, n, o, p, q, r, rfl⟩

theorem zog {l : List UInt8} {p n i : Nat} (h : i < n) : byt ((l.drop p).take n) i = byt l (p + i) := by
 simp [byt, List.getD, List.getElem?_take, h]

def zmG (ok bad : Int) : zdD := fun args h => match args with
 | [b] => match nOf b with
  | 16 => some (bOk h b, .tup [.agg (zdm (bOf h b) 0), .int .i64 ok], h)
  | 4 => some (bOk h b, .tup [.agg (zhr (bOf h b) 0), .int .i64 ok], h)
  | _ => none
 | _ => none

def kb1 (n : Int) : Int := n % 1073741824 / 65536 % 256
def kb2 (n : Int) : Int := n % 1073741824 / 256 % 256
def kb3 (n : Int) : Int := n % 1073741824 % 256
def zat (n : Int) : Int := 1000 + n % 1073741824 % 50000
def db3 (n : Int) : Int := 1 + n % 200
def zaF (n : Int) : Int := 8000 + n % 1000
theorem zm3 (n : Int) : 0 ≤ kb1 n ∧ kb1 n < 256 := by unfold kb1; omega
theorem zmW (n : Int) : 0 ≤ kb2 n ∧ kb2 n < 256 := by unfold kb2; omega
theorem zl3 (n : Int) : 0 ≤ kb3 n ∧ kb3 n < 256 := by unfold kb3; omega
theorem zi5 (n : Int) : 1000 ≤ zat n ∧ zat n < 51000 := by unfold zat; omega
theorem zsH (n : Int) : 1 ≤ db3 n ∧ db3 n < 201 := by unfold db3; omega
theorem ze1 (n : Int) : 8000 ≤ zaF n ∧ zaF n < 9000 := by unfold zaF; omega
def zbD (v : Bool) (n : Int) : List AV := zbx v 10 (kb1 n) (kb2 n) (kb3 n) 0 0 0 0 0 0 0 0 0 0 0 0
def zce (v : Bool) : List AV := zbx v 192 168 0 1 0 0 0 0 0 0 0 0 0 0 0 0
def zfL (v : Bool) (n : Int) : List AV := zbx v 172 16 0 (db3 n) 0 0 0 0 0 0 0 0 0 0 0 0
def zBx : zdD := fun args h => match args with
 | [.int .i64 n, .bool v, .bool u] => some (true, .agg ([.int .u8 (if u then 17 else 6)] ++ zbD v n ++ zce v ++ [.int .u16 (zat n), .int .u16 80]), h)
 | _ => none
def zA8 : zdD := fun args h => match args with
 | [.int .i64 n, .bool v] => some (true, .agg (zfL v n ++ [.int .u16 (zaF n)]), h)
 | _ => none

def zlN : AV → Bool
 | .int _ n => decide (n = 0)
 | _ => false
@[simp] theorem zxh (k : IntKind) (n : Int) : zlN (.int k n) = decide (n = 0) := rfl

def zas : List AV → Bool
 | .bool _ :: xs => decide (xs.length = 16) && xs.all zbC
 | _ => false
def zag : List AV → List UInt8
 | .bool v :: xs => match v with
  | true => xs.map zaA
  | false => (xs.take 4).map zaA
 | _ => []
def zbd : List AV → Bool
 | .bool v :: xs => match v with
  | true => true
  | false => (xs.drop 4).all zlN
 | _ => false

theorem za3 {a : AV} (h : zbC a = true) : ∃ x, a = .int .u8 x ∧ 0 ≤ x ∧ x < 256 := by
 unfold zbC at h
 split at h
 · rename_i n; simp only [decide_eq_true_eq] at h; exact ⟨n, rfl, h⟩
 · simp at h

theorem zfK {cs : List AV} (h : zas cs = true) : ∃ v x0 x1 x2 x3 x4 x5 x6 x7 x8 x9 x10 x11 x12 x13 x14 x15, cs = zbx v x0 x1 x2 x3 x4 x5 x6 x7 x8 x9 x10 x11 x12 x13 x14 x15 ∧ (0 ≤ x0 ∧ x0 < 256) ∧ (0 ≤ x1 ∧ x1 < 256) ∧ (0 ≤ x2 ∧ x2 < 256) ∧ (0 ≤ x3 ∧ x3 < 256) ∧ (0 ≤ x4 ∧ x4 < 256) ∧ (0 ≤ x5 ∧ x5 < 256) ∧ (0 ≤ x6 ∧ x6 < 256) ∧ (0 ≤ x7 ∧ x7 < 256) ∧ (0 ≤ x8 ∧ x8 < 256) ∧ (0 ≤ x9 ∧ x9 < 256) ∧ (0 ≤ x10 ∧ x10 < 256) ∧ (0 ≤ x11 ∧ x11 < 256) ∧ (0 ≤ x12 ∧ x12 < 256) ∧ (0 ≤ x13 ∧ x13 < 256) ∧ (0 ≤ x14 ∧ x14 < 256) ∧ (0 ≤ x15 ∧ x15 < 256) := by
 unfold zas at h
 split at h
 · rename_i v l
   simp only [Bool.and_eq_true, decide_eq_true_eq] at h
   obtain ⟨hl, h⟩ := h
   match l, hl, h with
   | [a0, a1, a2, a3, a4, a5, a6, a7, a8, a9, a10, a11, a12, a13, a14, a15], _, h =>
    simp only [List.all_cons, List.all_nil, Bool.and_eq_true, and_true] at h
    obtain ⟨h0, h1, h2, h3, h4, h5, h6, h7, h8, h9, h10, h11, h12, h13, h14, h15⟩ := h
    obtain ⟨x0, rfl, b0⟩ := za3 h0
    obtain ⟨x1, rfl, b1⟩ := za3 h1
    obtain ⟨x2, rfl, b2⟩ := za3 h2
    obtain ⟨x3, rfl, b3⟩ := za3 h3
    obtain ⟨x4, rfl, b4⟩ := za3 h4
    obtain ⟨x5, rfl, b5⟩ := za3 h5
    obtain ⟨x6, rfl, b6⟩ := za3 h6
    obtain ⟨x7, rfl, b7⟩ := za3 h7
    obtain ⟨x8, rfl, b8⟩ := za3 h8
    obtain ⟨x9, rfl, b9⟩ := za3 h9
    obtain ⟨x10, rfl, b10⟩ := za3 h10
    obtain ⟨x11, rfl, b11⟩ := za3 h11
    obtain ⟨x12, rfl, b12⟩ := za3 h12
    obtain ⟨x13, rfl, b13⟩ := za3 h13
    obtain ⟨x14, rfl, b14⟩ := za3 h14
    obtain ⟨x15, rfl, b15⟩ := za3 h15
    exact ⟨v, x0, x1, x2, x3, x4, x5, x6, x7, x8, x9, x10, x11, x12, x13, x14, x15, rfl, b0, b1, b2, b3, b4, b5, b6, b7, b8, b9, b10, b11, b12, b13, b14, b15⟩
 · simp at h

def za8 : List AV → Bool
 | .bool v :: _ => v
 | _ => false
theorem zdn {cs : List AV} (h : zas cs = true) : ∃ v X, cs = .bool v :: bys X ∧ X.length = 16 := by
 unfold zas at h
 split at h
 · rename_i v l
   simp only [Bool.and_eq_true, decide_eq_true_eq] at h
   exact ⟨v, l.map zaA, by rw [← zfa h.2], by simp [h.1]⟩
 · simp at h
theorem zaK {v : Bool} {X : List UInt8} (h : X.length = 16) : zas (.bool v :: bys X) = true := by simp [zas, h]
theorem zbY (X : List UInt8) : zag (.bool true :: bys X) = X := by simp [zag]
theorem zcF (X : List UInt8) : zag (.bool false :: bys X) = X.take 4 := by simp [zag, ← List.map_take]
theorem zaW {v : Bool} {X : List UInt8} (h : X.length = 16) : List.take 17 (AV.bool v :: bys X) = AV.bool v :: bys X := List.take_of_length_le (by simp [h])
theorem zll {v : Bool} {X : List UInt8} (h : X.length = 16) : List.take 16 (List.drop 1 (AV.bool v :: bys X)) = bys X := by simp [← h]
theorem zcH {v : Bool} {X : List UInt8} : AV.free (.agg (.bool v :: bys X)) = true := by simp [AV.free, AV.frees]
theorem zzP {h1 : zaa} {n0 m k n : Nat} {vs : List AV} {l : List UInt8} {par : Option Nat} {b : Bool} (hk : n0 ≤ k) (hb : h1[k]? = some (.cells vs 1 .own par)) (hv : vs = bys l) (hn : n = l.length) :
 Den h1 n0 m [some k] (.tup [.sl (some (k, 0)) n 0 false, .bool b]) (.tup [slB m l, .bool b]) [zbo l] :=
 .tup _ _ _ _ _ (.cons m [some k] [] _ _ _ _ [zbo l] [] (zug hk hb hv hn) (.cons _ [] [] _ _ _ _ [] [] (.flat _ _ rfl) (.nil _)))
theorem zwB {h1 : zaa} {n0 m : Nat} {e b : Bool} : Den h1 n0 m [none] (.tup [.sl none 0 0 e, .bool b]) (.tup [slB m [], .bool b]) [zbo []] :=
 .tup _ _ _ _ _ (.cons m [none] [] _ _ _ _ [zbo []] [] zqf (.cons _ [] [] _ _ _ _ [] [] (.flat _ _ rfl) (.nil _)))

def zbh : zdD := fun args h => match args with
 | [.agg cs] => some (zas cs, slB h.length (zag cs), h ++ [zbo (zag cs)])
 | _ => none
def zsJ : zdD := fun args h => match args with
 | [.agg cs] => some (zas cs, .bool (zbd cs), h)
 | _ => none

end Go.Abs

end

section
/- What the document says of IPv4's header. -/
set_option autoImplicit false
set_option linter.unusedVariables false
namespace Go.Abs

def s4 (l : List UInt8) : Int := byt l 0 % 16 * 4
def r4 (l : List UInt8) : Int :=
 if l.length < 20 then 1 else if byt l 0 / 16 ≠ 4 then 3 else if s4 l < 20 then 3 else if zan l 2 < s4 l then 3 else if (l.length : Int) < zan l 2 then 1 else if zft (l.take (s4 l).toNat) ≠ 0 then 4
 else if zan l 6 % 16384 ≠ 0 then 5 else if byt l 9 ≠ 6 ∧ byt l 9 ≠ 17 then 6 else 0
def z4 (l : List UInt8) (x : Int) : Int := if r4 l = 0 then x else 0
def zdl (l : List UInt8) (p : Nat) : List AV := zbx false (z4 l (byt l p)) (z4 l (byt l (p + 1))) (z4 l (byt l (p + 2))) (z4 l (byt l (p + 3))) 0 0 0 0 0 0 0 0 0 0 0 0
def zdo (l : List UInt8) : List AV := [.int .i64 (z4 l (s4 l)), .int .i64 (z4 l (zan l 2)), .int .u8 (z4 l (byt l 9))] ++ zdl l 12 ++ zdl l 16
def zbu (l : List UInt8) : AV := .tup [.agg (zdo l), .int .i64 (r4 l)]

theorem zbg {l : List UInt8} {p n i : Nat} (h : i < n) : byt (List.take n (List.drop p l)) i = byt l (p + i) := zog h
theorem zrs (x : Int) : x.fdiv 16 = x / 16 := Int.fdiv_eq_ediv_of_nonneg _ (by omega)

theorem zAG {n : Int} (h : 0 ≤ n ∧ n < 256) : zaU .u8 (· &&& ·) n 15 = n % 16 := by
 obtain ⟨a, rfl⟩ := Int.eq_ofNat_of_zero_le h.1
 have h1 : (BitVec.ofInt 8 (15 : Int)).toNat = 15 := by decide
 have h2 := zdf 8 a (by omega)
 show IntKind.u8.wrap ((BitVec.ofInt 8 (a : Int) &&& BitVec.ofInt 8 (15 : Int)).toNat : Int) = _
 rw [BitVec.toNat_and, h2, h1, show (15 : Nat) = 2 ^ 4 - 1 by rfl, Nat.and_two_pow_sub_one_eq_mod, zwr (by omega)]
 omega
theorem zzy {n : Int} (h : 0 ≤ n ∧ n < 65536) : zaU .u16 (· &&& ·) n 16383 = n % 16384 := by
 obtain ⟨a, rfl⟩ := Int.eq_ofNat_of_zero_le h.1
 have h1 : (BitVec.ofInt 16 (16383 : Int)).toNat = 16383 := by decide
 have h2 := zdf 16 a (by omega)
 show IntKind.u16.wrap ((BitVec.ofInt 16 (a : Int) &&& BitVec.ofInt 16 (16383 : Int)).toNat : Int) = _
 rw [BitVec.toNat_and, h2, h1, show (16383 : Nat) = 2 ^ 14 - 1 by rfl, Nat.and_two_pow_sub_one_eq_mod, zb7 (by omega)]
 omega
theorem zws {n : Int} (h : 0 ≤ n ∧ n < 65536) : zaU .i64 (· &&& ·) n 16383 = n % 16384 := by
 obtain ⟨a, rfl⟩ := Int.eq_ofNat_of_zero_le h.1
 have h1 : (BitVec.ofInt 64 (16383 : Int)).toNat = 16383 := by decide
 have h2 := zdf 64 a (by omega)
 show IntKind.i64.wrap ((BitVec.ofInt 64 (a : Int) &&& BitVec.ofInt 64 (16383 : Int)).toNat : Int) = _
 rw [BitVec.toNat_and, h2, h1, show (16383 : Nat) = 2 ^ 14 - 1 by rfl, Nat.and_two_pow_sub_one_eq_mod, zao (by omega)]
 omega

def zfr (a b c d : UInt8) (X : List AV) : List AV := .int .u8 ((a.toNat : Nat) : Int) :: .int .u8 ((b.toNat : Nat) : Int) :: .int .u8 ((c.toNat : Nat) : Int) :: .int .u8 ((d.toNat : Nat) : Int) :: X
theorem zlR {X : List UInt8} (h : X.length = 16) : ∃ a b c d Y, bys X = zfr a b c d (bys Y) ∧ X = a :: b :: c :: d :: Y ∧ Y.length = 12 := by
 match X, h with
 | a :: b :: c :: d :: Y, h => exact ⟨a, b, c, d, Y, rfl, rfl, by simpa using h⟩

theorem zta {l : List UInt8} (h : r4 l = 0) : 20 ≤ l.length := by
 unfold r4 at h
 split at h
 · omega
 · omega
def c4 (l T : List UInt8) : Int := zaR (zan l 10) ((l.drop 16).take 4) T
def zc6 (l : List UInt8) (cs : List AV) : List UInt8 := if r4 l = 0 ∧ za8 cs = false then zcf (zcf l 10 (ziA (c4 l (zag cs)) 2)) 16 (zag cs) else []
def zmA : zdD := fun args h => match args with
 | [b, .agg cs] => some (bOk h b && (zas cs && decide (nOf b ≤ 1000000000000)), slB h.length (zc6 (bOf h b) cs), h ++ [zbo (zc6 (bOf h b) cs)])
 | _ => none
theorem zxr {l : List UInt8} {cs : List AV} (h : r4 l ≠ 0 ∨ za8 cs = true) : zc6 l cs = [] := by
 unfold zc6; rw [if_neg]; rintro ⟨h1, h2⟩
 rcases h with h | h
 · exact h h1
 · rw [h] at h2; simp at h2
theorem zdR {a b c d : UInt8} {Y : List UInt8} (hY : Y.length = 12) :
 List.take 17 (AV.bool false :: .int .u8 ((a.toNat : Nat) : Int) :: .int .u8 ((b.toNat : Nat) : Int) :: .int .u8 ((c.toNat : Nat) : Int) :: .int .u8 ((d.toNat : Nat) : Int) :: bys Y) = AV.bool false :: .int .u8 ((a.toNat : Nat) : Int) :: .int .u8 ((b.toNat : Nat) : Int) :: .int .u8 ((c.toNat : Nat) : Int) :: .int .u8 ((d.toNat : Nat) : Int) :: bys Y ∧
 zas (AV.bool false :: .int .u8 ((a.toNat : Nat) : Int) :: .int .u8 ((b.toNat : Nat) : Int) :: .int .u8 ((c.toNat : Nat) : Int) :: .int .u8 ((d.toNat : Nat) : Int) :: bys Y) = true ∧
 zag (AV.bool false :: .int .u8 ((a.toNat : Nat) : Int) :: .int .u8 ((b.toNat : Nat) : Int) :: .int .u8 ((c.toNat : Nat) : Int) :: .int .u8 ((d.toNat : Nat) : Int) :: bys Y) = [a, b, c, d] := by
 refine ⟨List.take_of_length_le (by simp [hY]), ?_, ?_⟩
 · exact zaK (X := a :: b :: c :: d :: Y) (by simp [hY])
 · show [zaA (.int .u8 ((a.toNat : Nat) : Int)), zaA (.int .u8 ((b.toNat : Nat) : Int)), zaA (.int .u8 ((c.toNat : Nat) : Int)), zaA (.int .u8 ((d.toNat : Nat) : Int))] = _
   simp only [zla]
theorem zbH : ∀ (xs l : List UInt8) (p : Nat), (zcf l p xs).length = l.length
 | [], _, _ => rfl
 | x :: xs, l, p => by rw [zcf, zbH xs]; simp
theorem zns (xs l : List UInt8) (o : Nat) (h : o + xs.length ≤ l.length) : zae (bys l) o (bys xs) = bys (zcf l o xs) := by rw [zdt _ _ _ h, zeH _ _ _ h]
theorem zyn (l : List UInt8) (p sz : Nat) (v : Int) (h : p + sz ≤ l.length) : zcz l p sz v = zcf l p (ziA v sz) := by
 rw [zeH _ _ _ (by simp; omega), zcz, if_pos (by omega)]; simp

def zg5 (pr n : Int) (S D : List UInt8) : List UInt8 := [69, 0, u8i ((20 + n) / 256), u8i (20 + n), 0, 0, 64, 0, 64, u8i pr, 0, 0] ++ S ++ D
def zyM (pr n : Int) (S D : List UInt8) : List UInt8 := zcf (zg5 pr n S D) 10 (ziA (zft (zg5 pr n S D)) 2)
def zfn (cs ds : List AV) (n : Int) : Prop := za8 cs = false ∧ za8 ds = false ∧ 0 ≤ n ∧ n ≤ 65515
instance (cs ds : List AV) (n : Int) : Decidable (zfn cs ds n) := by unfold zfn; infer_instance
def zgp (cs ds : List AV) (pr n : Int) : List UInt8 := if zfn cs ds n then zyM pr n (zag cs) (zag ds) else []
theorem zyj {cs ds : List AV} {pr n : Int} (h : ¬ zfn cs ds n) : zgp cs ds pr n = [] := by unfold zgp; rw [if_neg h]
def zwt : zdD := fun args h => match args with
 | [.agg cs, .agg ds, .int .u8 pr, .int .i64 n] => some (zas cs && (zas ds && decide (0 ≤ pr ∧ pr < 256)), .tup [slB h.length (zgp cs ds pr n), .bool (decide (zfn cs ds n))], h ++ [zbo (zgp cs ds pr n)])
 | _ => none
theorem zf1 (x : UInt8) : zbC (.int .u8 ((x.toNat : Nat) : Int)) = true := by
 have := x.toNat_lt
 simp [zbC]; omega
end Go.Abs

end

section
/- What the document says of IPv6's header. -/
set_option autoImplicit false
set_option linter.unusedVariables false
namespace Go.Abs

def r6 (l : List UInt8) : Int :=
 if l.length < 40 then 1 else if byt l 0 / 16 ≠ 6 then 3 else if (l.length : Int) < 40 + zan l 4 then 1 else if byt l 6 = 44 then 5 else if byt l 6 ≠ 6 ∧ byt l 6 ≠ 17 then 6 else 0
def z6 (l : List UInt8) (x : Int) : Int := if r6 l = 0 then x else 0
def zfq (l : List UInt8) (p : Nat) : List AV := zbx (decide (r6 l = 0)) (z6 l (byt l p)) (z6 l (byt l (p + 1))) (z6 l (byt l (p + 2))) (z6 l (byt l (p + 3))) (z6 l (byt l (p + 4))) (z6 l (byt l (p + 5))) (z6 l (byt l (p + 6))) (z6 l (byt l (p + 7)))
 (z6 l (byt l (p + 8))) (z6 l (byt l (p + 9))) (z6 l (byt l (p + 10))) (z6 l (byt l (p + 11))) (z6 l (byt l (p + 12))) (z6 l (byt l (p + 13))) (z6 l (byt l (p + 14))) (z6 l (byt l (p + 15)))
def zfs (l : List UInt8) : List AV := [.int .i64 (z6 l (40 + zan l 4)), .int .u8 (z6 l (byt l 6))] ++ zfq l 8 ++ zfq l 24
def zd1 (l : List UInt8) : AV := .tup [.agg (zfs l), .int .i64 (r6 l)]
def zcT (l : List UInt8) : AV := .tup [.agg (.int .i64 (z6 l 40) :: zfs l), .int .i64 (r6 l)]

theorem zoc {l : List UInt8} {p n i : Nat} (h : i < n) : byt (List.take n (List.drop p l)) i = byt l (p + i) := zog h
theorem zaz (l c : Nat) : zai l c false = l + c := rfl

theorem zwb (x : Int) : x.fdiv 16 = x / 16 := Int.fdiv_eq_ediv_of_nonneg _ (by omega)

theorem ztq {l : List UInt8} (h : r6 l = 0) : 40 ≤ l.length := by
 unfold r6 at h
 split at h
 · omega
 · omega
def zdw (l : List UInt8) (cs : List AV) : List UInt8 := if r6 l = 0 ∧ za8 cs = true then l.take 24 ++ zag cs ++ l.drop 40 else []
def zfM (cs ds : List AV) (n : Int) : Prop := za8 cs = true ∧ za8 ds = true ∧ 0 ≤ n ∧ n ≤ 65535
instance (cs ds : List AV) (n : Int) : Decidable (zfM cs ds n) := by unfold zfM; infer_instance
def zgF (cs ds : List AV) (pr n : Int) : List UInt8 := if zfM cs ds n then [96, 0, 0, 0, u8i (n / 256), u8i n, u8i pr, 64] ++ zag cs ++ zag ds else []
def zoW : zdD := fun args h => match args with
 | [b, .agg cs] => some (bOk h b && (zas cs && decide (nOf b ≤ 1000000000000)), slB h.length (zdw (bOf h b) cs), h ++ [zbo (zdw (bOf h b) cs)])
 | _ => none
def zwF : zdD := fun args h => match args with
 | [.agg cs, .agg ds, .int .u8 pr, .int .i64 n] => some (zas cs && (zas ds && decide (0 ≤ pr ∧ pr < 256)), .tup [slB h.length (zgF cs ds pr n), .bool (decide (zfM cs ds n))], h ++ [zbo (zgF cs ds pr n)])
 | _ => none

end Go.Abs

end

section
/- What the document says of TCP's and UDP's segments. -/
set_option autoImplicit false
set_option linter.unusedVariables false
namespace Go.Abs

theorem zlJ (x : Int) : x.fdiv 16 = x / 16 := Int.fdiv_eq_ediv_of_nonneg _ (by omega)
def zbW (p : Int) (l : List UInt8) : Int :=
 if p = 6 then (if l.length < 20 then 1 else if byt l 12 / 16 * 4 < 20 then 3 else if (l.length : Int) < byt l 12 / 16 * 4 then 3 else 0)
 else if p = 17 then (if l.length < 8 then 1 else if zan l 4 < 8 then 3 else if (l.length : Int) < zan l 4 then 3 else 0)
 else 6
def zho (p : Int) (l : List UInt8) (x : Int) : Int := if zbW p l = 0 then x else 0
def zca (p : Int) (l : List UInt8) : Int := if p = 6 then zho p l (byt l 13) else 0
def zcb (p : Int) (l : List UInt8) : AV := .tup [.agg [.int .u16 (zho p l (zan l 0)), .int .u16 (zho p l (zan l 2)), .int .u8 (zca p l)], .int .i64 (zbW p l)]
def zbS (p : Int) (l : List UInt8) : AV := .tup [.agg [.int .i64 (zho p l (zan l 0)), .int .i64 (zho p l (zan l 2)), .int .u8 (zca p l)], .int .i64 (zbW p l)]
theorem zcx {p : Int} {l : List UInt8} (h : zbW p l = 0) : (p = 6 ∧ 20 ≤ l.length) ∨ (p = 17 ∧ 8 ≤ l.length) := by
 unfold zbW at h
 split at h
 · split at h
   · omega
   · exact .inl ⟨by assumption, by omega⟩
 · split at h
   · split at h
     · omega
     · exact .inr ⟨by assumption, by omega⟩
   · omega
def zgL : zdD := fun args h => match args with
 | [.int .u8 p, b] => some (bOk h b && decide (nOf b ≤ 1000000000000), zcb p (bOf h b), h)
 | _ => none
def zdI : zdD := fun args h => match args with
 | [.int .u8 p, b] => some (bOk h b && decide (nOf b ≤ 1000000000000), zbS p (bOf h b), h)
 | _ => none

def zwe (p : Int) : Nat := if p = 6 then 16 else 6
def zpG (p : Int) (l : List UInt8) (to : Int) (A B : List UInt8) : Int := zaR (zfJ (zan l (zwe p)) (zan l 2) to) A B
def zdL (p : Int) (l : List UInt8) (to : Int) (cs ds : List AV) : List UInt8 :=
 if zbW p l = 0 ∧ za8 cs = za8 ds then
  (if p = 17 ∧ zan l 6 = 0 then zcz l 2 2 to
   else zcz (zcz l 2 2 to) (zwe p : Int) 2 (if p = 17 ∧ zpG p l to (zag cs) (zag ds) = 0 then 65535 else zpG p l to (zag cs) (zag ds)))
 else []
theorem zse {p : Int} {l : List UInt8} {to : Int} {cs ds : List AV} (h : zbW p l ≠ 0 ∨ za8 cs ≠ za8 ds) : zdL p l to cs ds = [] := by
 unfold zdL; rw [if_neg]; rintro ⟨h1, h2⟩
 rcases h with h | h
 · exact h h1
 · exact h h2
theorem zh7 {p : Int} {l : List UInt8} {to : Int} {cs ds : List AV} (h : zbW p l = 0 ∧ za8 cs = za8 ds) : (zdL p l to cs ds).length = l.length := by
 unfold zdL; rw [if_pos h]
 split
 · exact zbz _ _ _ _
 · rw [zbz, zbz]
def zhj : zdD := fun args h => match args with
 | [.int .u8 p, b, .int .u16 to, .agg cs, .agg ds] => some (bOk h b && (zas cs && (zas ds && decide (nOf b ≤ 1000000000000 ∧ 0 ≤ to ∧ to < 65536))), slB h.length (zdL p (bOf h b) to cs ds), h ++ [zbo (zdL p (bOf h b) to cs ds)])
 | _ => none
theorem zeG {p r : Int} {l : List UInt8} (h : zbW p l = r) (h0 : r ≠ 0) : zcb p l = .tup [.agg [.int .u16 0, .int .u16 0, .int .u8 0], .int .i64 r] ∧ zbS p l = .tup [.agg [.int .i64 0, .int .i64 0, .int .u8 0], .int .i64 r] := by
 have hf : zca p l = 0 := by unfold zca zho; rw [h, if_neg h0]; split <;> rfl
 have hz : ∀ x, zho p l x = 0 := fun x => by unfold zho; rw [h, if_neg h0]
 unfold zcb zbS
 rw [hf, hz, hz, h]; exact ⟨rfl, rfl⟩
theorem zbP {p : Int} {l : List UInt8} (h : zbW p l = 0) : zcb p l = .tup [.agg [.int .u16 (zan l 0), .int .u16 (zan l 2), .int .u8 (zca p l)], .int .i64 0] ∧ zbS p l = .tup [.agg [.int .i64 (zan l 0), .int .i64 (zan l 2), .int .u8 (zca p l)], .int .i64 0] := by
 have hz : ∀ x, zho p l x = x := fun x => by unfold zho; rw [if_pos h]
 unfold zcb zbS
 rw [hz, hz, h]; exact ⟨rfl, rfl⟩

def zav (p n : Int) (cs ds : List AV) : List UInt8 := zag cs ++ zag ds ++ (if za8 cs = true then ziA n 4 ++ [0, 0, 0, u8i p] else [0, u8i p] ++ ziA n 2)
def zfy (p : Int) (l : List UInt8) (cs ds : List AV) : Bool := decide (zbW p l = 0 ∧ za8 cs = za8 ds) && (decide (p = 17 ∧ zan l 6 = 0) || decide (zfX l (zfX (zav p l.length cs ds) 0) = 65535))
def zmz : zdD := fun args h => match args with
 | [.int .u8 p, b, .agg cs, .agg ds] => some (bOk h b && (zas cs && (zas ds && decide (nOf b ≤ 1000000000000 ∧ 0 ≤ p ∧ p < 256))), .bool (zfy p (bOf h b) cs ds), h)
 | _ => none
end Go.Abs

end

section
/- bazaar/addr.Bytes. -/
set_option autoImplicit false
set_option maxRecDepth 100000
set_option linter.unusedVariables false
set_option linter.unusedSimpArgs false
namespace Go.Proofs.Ytnchnjkakddhlaa.L
open Go Go.Abs

noncomputable def zsr (x0 x1 x2 x3 x4 x5 x6 x7 x8 x9 x10 x11 x12 x13 x14 x15 : Int) : zaa := [ABlk.cells [AV.bool true, AV.int IntKind.u8 x0, AV.int IntKind.u8 x1, AV.int IntKind.u8 x2, AV.int IntKind.u8 x3, AV.int IntKind.u8 x4, AV.int IntKind.u8 x5, AV.int IntKind.u8 x6, AV.int IntKind.u8 x7, AV.int IntKind.u8 x8, AV.int IntKind.u8 x9, AV.int IntKind.u8 x10, AV.int IntKind.u8 x11, AV.int IntKind.u8 x12, AV.int IntKind.u8 x13, AV.int IntKind.u8 x14, AV.int IntKind.u8 x15] 17 Md.own none, ABlk.cells [] 1 Md.ro none, ABlk.cells [AV.int IntKind.u8 x0, AV.int IntKind.u8 x1, AV.int IntKind.u8 x2, AV.int IntKind.u8 x3, AV.int IntKind.u8 x4, AV.int IntKind.u8 x5, AV.int IntKind.u8 x6, AV.int IntKind.u8 x7, AV.int IntKind.u8 x8, AV.int IntKind.u8 x9, AV.int IntKind.u8 x10, AV.int IntKind.u8 x11, AV.int IntKind.u8 x12, AV.int IntKind.u8 x13, AV.int IntKind.u8 x14, AV.int IntKind.u8 x15] 1 Md.own (some 1)]
theorem zs2 {R : Type} (x0 x1 x2 x3 x4 x5 x6 x7 x8 x9 x10 x11 x12 x13 x14 x15 : Int) (K : AV → zaa → Option R) :
 zbs Try.prog [] 100 6 [] [] 46 [.agg (zbx true x0 x1 x2 x3 x4 x5 x6 x7 x8 x9 x10 x11 x12 x13 x14 x15)] [] K =
 K (AV.sl (some (2, 0)) 16 0 false) ((zsr x0 x1 x2 x3 x4 x5 x6 x7 x8 x9 x10 x11 x12 x13 x14 x15)) := by
  kernel_rfl

noncomputable def ztY (x0 x1 x2 x3 x4 x5 x6 x7 x8 x9 x10 x11 x12 x13 x14 x15 : Int) : zaa := [ABlk.cells [AV.bool false, AV.int IntKind.u8 x0, AV.int IntKind.u8 x1, AV.int IntKind.u8 x2, AV.int IntKind.u8 x3, AV.int IntKind.u8 x4, AV.int IntKind.u8 x5, AV.int IntKind.u8 x6, AV.int IntKind.u8 x7, AV.int IntKind.u8 x8, AV.int IntKind.u8 x9, AV.int IntKind.u8 x10, AV.int IntKind.u8 x11, AV.int IntKind.u8 x12, AV.int IntKind.u8 x13, AV.int IntKind.u8 x14, AV.int IntKind.u8 x15] 17 Md.own none, ABlk.cells [] 1 Md.ro none, ABlk.cells [AV.int IntKind.u8 x0, AV.int IntKind.u8 x1, AV.int IntKind.u8 x2, AV.int IntKind.u8 x3] 1 Md.own (some 1)]
theorem zro {R : Type} (x0 x1 x2 x3 x4 x5 x6 x7 x8 x9 x10 x11 x12 x13 x14 x15 : Int) (K : AV → zaa → Option R) :
 zbs Try.prog [] 100 6 [] [] 46 [.agg (zbx false x0 x1 x2 x3 x4 x5 x6 x7 x8 x9 x10 x11 x12 x13 x14 x15)] [] K =
 K (AV.sl (some (2, 0)) 4 0 false) ((ztY x0 x1 x2 x3 x4 x5 x6 x7 x8 x9 x10 x11 x12 x13 x14 x15)) := by
  kernel_rfl


theorem ztc : SoundE Try.prog 46 (zbj zbh) := by
 refine zb0 fun args h v h' hg => ?_
 unfold zbh at hg
 split at hg
 · rename_i cs
   simp only [Option.some.injEq, Prod.mk.injEq] at hg
   obtain ⟨hw, rfl, rfl⟩ := hg
   obtain ⟨v, x0, x1, x2, x3, x4, x5, x6, x7, x8, x9, x10, x11, x12, x13, x14, x15, rfl, b0, b1, b2, b3, b4, b5, b6, b7, b8, b9, b10, b11, b12, b13, b14, b15⟩ := zfK hw
   refine ⟨[.agg (zbx v x0 x1 x2 x3 x4 x5 x6 x7 x8 x9 x10 x11 x12 x13 x14 x15)], [], .cons _ _ _ _ _ _ _ (.flat _ _ rfl) (.nil _), ?_⟩
   cases v
   · refine ⟨_, _, Runs.ofT0 (zar _) (F := 100) (n := 6) (pr := []) (zro x0 x1 x2 x3 x4 x5 x6 x7 x8 x9 x10 x11 x12 x13 x14 x15 _), [some 2], _, rfl, zug (by simp) rfl (show [.int .u8 x0, .int .u8 x1, .int .u8 x2, .int .u8 x3] = bys [zaA (.int .u8 x0), zaA (.int .u8 x1), zaA (.int .u8 x2), zaA (.int .u8 x3)] from zfa (l := [.int .u8 x0, .int .u8 x1, .int .u8 x2, .int .u8 x3]) (by simp [zbC]; omega)) rfl, zdJ _⟩
   · refine ⟨_, _, Runs.ofT0 (zar _) (F := 100) (n := 6) (pr := []) (zs2 x0 x1 x2 x3 x4 x5 x6 x7 x8 x9 x10 x11 x12 x13 x14 x15 _), [some 2], _, rfl, zug (by simp) rfl (show [.int .u8 x0, .int .u8 x1, .int .u8 x2, .int .u8 x3, .int .u8 x4, .int .u8 x5, .int .u8 x6, .int .u8 x7, .int .u8 x8, .int .u8 x9, .int .u8 x10, .int .u8 x11, .int .u8 x12, .int .u8 x13, .int .u8 x14, .int .u8 x15] = bys [zaA (.int .u8 x0), zaA (.int .u8 x1), zaA (.int .u8 x2), zaA (.int .u8 x3), zaA (.int .u8 x4), zaA (.int .u8 x5), zaA (.int .u8 x6), zaA (.int .u8 x7), zaA (.int .u8 x8), zaA (.int .u8 x9), zaA (.int .u8 x10), zaA (.int .u8 x11), zaA (.int .u8 x12), zaA (.int .u8 x13), zaA (.int .u8 x14), zaA (.int .u8 x15)] from zfa (l := [.int .u8 x0, .int .u8 x1, .int .u8 x2, .int .u8 x3, .int .u8 x4, .int .u8 x5, .int .u8 x6, .int .u8 x7, .int .u8 x8, .int .u8 x9, .int .u8 x10, .int .u8 x11, .int .u8 x12, .int .u8 x13, .int .u8 x14, .int .u8 x15]) (by simp [zbC]; omega)) rfl, zdJ _⟩
 · simp at hg

end Go.Proofs.Ytnchnjkakddhlaa.L

end

section
/- bazaar/bazaarref1.Bytes. -/
set_option autoImplicit false
set_option maxRecDepth 100000
set_option linter.unusedVariables false
set_option linter.unusedSimpArgs false
namespace Go.Proofs.Ytnchnjkakddhlaa.L
open Go Go.Abs

noncomputable def zru (x0 x1 x2 x3 x4 x5 x6 x7 x8 x9 x10 x11 x12 x13 x14 x15 : Int) : zaa := [ABlk.cells [AV.bool true, AV.int IntKind.u8 x0, AV.int IntKind.u8 x1, AV.int IntKind.u8 x2, AV.int IntKind.u8 x3, AV.int IntKind.u8 x4, AV.int IntKind.u8 x5, AV.int IntKind.u8 x6, AV.int IntKind.u8 x7, AV.int IntKind.u8 x8, AV.int IntKind.u8 x9, AV.int IntKind.u8 x10, AV.int IntKind.u8 x11, AV.int IntKind.u8 x12, AV.int IntKind.u8 x13, AV.int IntKind.u8 x14, AV.int IntKind.u8 x15] 17 Md.own none, ABlk.cells [] 1 Md.ro none, ABlk.cells [AV.int IntKind.u8 x0, AV.int IntKind.u8 x1, AV.int IntKind.u8 x2, AV.int IntKind.u8 x3, AV.int IntKind.u8 x4, AV.int IntKind.u8 x5, AV.int IntKind.u8 x6, AV.int IntKind.u8 x7, AV.int IntKind.u8 x8, AV.int IntKind.u8 x9, AV.int IntKind.u8 x10, AV.int IntKind.u8 x11, AV.int IntKind.u8 x12, AV.int IntKind.u8 x13, AV.int IntKind.u8 x14, AV.int IntKind.u8 x15] 1 Md.own (some 1)]
theorem zrv {R : Type} (x0 x1 x2 x3 x4 x5 x6 x7 x8 x9 x10 x11 x12 x13 x14 x15 : Int) (K : AV → zaa → Option R) :
 zbs Try.prog [] 100 6 [] [] 29 [.agg (zbx true x0 x1 x2 x3 x4 x5 x6 x7 x8 x9 x10 x11 x12 x13 x14 x15)] [] K =
 K (AV.sl (some (2, 0)) 16 0 false) ((zru x0 x1 x2 x3 x4 x5 x6 x7 x8 x9 x10 x11 x12 x13 x14 x15)) := by
  kernel_rfl

noncomputable def zsl (x0 x1 x2 x3 x4 x5 x6 x7 x8 x9 x10 x11 x12 x13 x14 x15 : Int) : zaa := [ABlk.cells [AV.bool false, AV.int IntKind.u8 x0, AV.int IntKind.u8 x1, AV.int IntKind.u8 x2, AV.int IntKind.u8 x3, AV.int IntKind.u8 x4, AV.int IntKind.u8 x5, AV.int IntKind.u8 x6, AV.int IntKind.u8 x7, AV.int IntKind.u8 x8, AV.int IntKind.u8 x9, AV.int IntKind.u8 x10, AV.int IntKind.u8 x11, AV.int IntKind.u8 x12, AV.int IntKind.u8 x13, AV.int IntKind.u8 x14, AV.int IntKind.u8 x15] 17 Md.own none, ABlk.cells [] 1 Md.ro none, ABlk.cells [AV.int IntKind.u8 x0, AV.int IntKind.u8 x1, AV.int IntKind.u8 x2, AV.int IntKind.u8 x3] 1 Md.own (some 1)]
theorem zr4 {R : Type} (x0 x1 x2 x3 x4 x5 x6 x7 x8 x9 x10 x11 x12 x13 x14 x15 : Int) (K : AV → zaa → Option R) :
 zbs Try.prog [] 100 6 [] [] 29 [.agg (zbx false x0 x1 x2 x3 x4 x5 x6 x7 x8 x9 x10 x11 x12 x13 x14 x15)] [] K =
 K (AV.sl (some (2, 0)) 4 0 false) ((zsl x0 x1 x2 x3 x4 x5 x6 x7 x8 x9 x10 x11 x12 x13 x14 x15)) := by
  kernel_rfl


theorem znB : SoundE Try.prog 29 (zbj zbh) := by
 refine zb0 fun args h v h' hg => ?_
 unfold zbh at hg
 split at hg
 · rename_i cs
   simp only [Option.some.injEq, Prod.mk.injEq] at hg
   obtain ⟨hw, rfl, rfl⟩ := hg
   obtain ⟨v, x0, x1, x2, x3, x4, x5, x6, x7, x8, x9, x10, x11, x12, x13, x14, x15, rfl, b0, b1, b2, b3, b4, b5, b6, b7, b8, b9, b10, b11, b12, b13, b14, b15⟩ := zfK hw
   refine ⟨[.agg (zbx v x0 x1 x2 x3 x4 x5 x6 x7 x8 x9 x10 x11 x12 x13 x14 x15)], [], .cons _ _ _ _ _ _ _ (.flat _ _ rfl) (.nil _), ?_⟩
   cases v
   · refine ⟨_, _, Runs.ofT0 (zar _) (F := 100) (n := 6) (pr := []) (zr4 x0 x1 x2 x3 x4 x5 x6 x7 x8 x9 x10 x11 x12 x13 x14 x15 _), [some 2], _, rfl, zug (by simp) rfl (show [.int .u8 x0, .int .u8 x1, .int .u8 x2, .int .u8 x3] = bys [zaA (.int .u8 x0), zaA (.int .u8 x1), zaA (.int .u8 x2), zaA (.int .u8 x3)] from zfa (l := [.int .u8 x0, .int .u8 x1, .int .u8 x2, .int .u8 x3]) (by simp [zbC]; omega)) rfl, zdJ _⟩
   · refine ⟨_, _, Runs.ofT0 (zar _) (F := 100) (n := 6) (pr := []) (zrv x0 x1 x2 x3 x4 x5 x6 x7 x8 x9 x10 x11 x12 x13 x14 x15 _), [some 2], _, rfl, zug (by simp) rfl (show [.int .u8 x0, .int .u8 x1, .int .u8 x2, .int .u8 x3, .int .u8 x4, .int .u8 x5, .int .u8 x6, .int .u8 x7, .int .u8 x8, .int .u8 x9, .int .u8 x10, .int .u8 x11, .int .u8 x12, .int .u8 x13, .int .u8 x14, .int .u8 x15] = bys [zaA (.int .u8 x0), zaA (.int .u8 x1), zaA (.int .u8 x2), zaA (.int .u8 x3), zaA (.int .u8 x4), zaA (.int .u8 x5), zaA (.int .u8 x6), zaA (.int .u8 x7), zaA (.int .u8 x8), zaA (.int .u8 x9), zaA (.int .u8 x10), zaA (.int .u8 x11), zaA (.int .u8 x12), zaA (.int .u8 x13), zaA (.int .u8 x14), zaA (.int .u8 x15)] from zfa (l := [.int .u8 x0, .int .u8 x1, .int .u8 x2, .int .u8 x3, .int .u8 x4, .int .u8 x5, .int .u8 x6, .int .u8 x7, .int .u8 x8, .int .u8 x9, .int .u8 x10, .int .u8 x11, .int .u8 x12, .int .u8 x13, .int .u8 x14, .int .u8 x15]) (by simp [zbC]; omega)) rfl, zdJ _⟩
 · simp at hg

end Go.Proofs.Ytnchnjkakddhlaa.L

end

section
/- bazaar/bazaarref1.From. -/
set_option autoImplicit false
set_option maxRecDepth 100000
set_option linter.unusedVariables false
set_option linter.unusedSimpArgs false
namespace Go.Proofs.Ytnchnjkakddhlaa.L
open Go Go.Abs

theorem zqR {R : Type} (a b c d e f g i j k m n o p q r : UInt8) (K : AV → Option R) : zbs Try.prog [] 100 4 [] [] 54 [.sl (some (0, 0)) 16 0 false] [.cells [.int .u8 ((a.toNat : Nat) : Int), .int .u8 ((b.toNat : Nat) : Int), .int .u8 ((c.toNat : Nat) : Int), .int .u8 ((d.toNat : Nat) : Int), .int .u8 ((e.toNat : Nat) : Int), .int .u8 ((f.toNat : Nat) : Int), .int .u8 ((g.toNat : Nat) : Int), .int .u8 ((i.toNat : Nat) : Int), .int .u8 ((j.toNat : Nat) : Int), .int .u8 ((k.toNat : Nat) : Int), .int .u8 ((m.toNat : Nat) : Int), .int .u8 ((n.toNat : Nat) : Int), .int .u8 ((o.toNat : Nat) : Int), .int .u8 ((p.toNat : Nat) : Int), .int .u8 ((q.toNat : Nat) : Int), .int .u8 ((r.toNat : Nat) : Int)] 1 .far none] (fun v _ => K v) = K (.tup [.agg (zdm [a, b, c, d, e, f, g, i, j, k, m, n, o, p, q, r] 0), .int .i64 0]) := by kernel_rfl
theorem zvh {R : Type} (a b c d : UInt8) (K : AV → Option R) : zbs Try.prog [] 100 4 [] [] 54 [.sl (some (0, 0)) 4 0 false] [.cells [.int .u8 ((a.toNat : Nat) : Int), .int .u8 ((b.toNat : Nat) : Int), .int .u8 ((c.toNat : Nat) : Int), .int .u8 ((d.toNat : Nat) : Int)] 1 .far none] (fun v _ => K v) = K (.tup [.agg (zhr [a, b, c, d] 0), .int .i64 0]) := by kernel_rfl

theorem zwH : SoundE Try.prog 54 (zbj (zmG 0 2)) := by
 refine zax fun args h v h' hg => ?_
 unfold zmG at hg
 split at hg
 · rename_i b
   split at hg
   · rename_i hn
     simp only [Option.some.injEq, Prod.mk.injEq] at hg
     obtain ⟨hb, rfl, rfl⟩ := hg
     refine ⟨rfl, rfl, [slB 0 (bOf h b)], [zaC (bOf h b)], .cons _ _ _ _ _ _ _ (zaJ hb 0) (.nil _), ?_⟩
     have hl := zbt hb
     rw [hn] at hl
     generalize bOf h b = l at hl
     obtain ⟨a, b, c, d, e, f, g, i, j, k, m, n, o, p, q, r, rfl⟩ := zdT hl
     exact Runs.valT0 (zar _) (F := 100) (n := 4) (pr := []) (zqR a b c d e f g i j k m n o p q r _)
   · rename_i hn
     simp only [Option.some.injEq, Prod.mk.injEq] at hg
     obtain ⟨hb, rfl, rfl⟩ := hg
     refine ⟨rfl, rfl, [slB 0 (bOf h b)], [zaC (bOf h b)], .cons _ _ _ _ _ _ _ (zaJ hb 0) (.nil _), ?_⟩
     have hl := zbt hb
     rw [hn] at hl
     generalize bOf h b = l at hl
     obtain ⟨a, b, c, d, rfl⟩ := zfQ hl
     exact Runs.valT0 (zar _) (F := 100) (n := 4) (pr := []) (zvh a b c d _)
   · simp at hg
 · simp at hg

end Go.Proofs.Ytnchnjkakddhlaa.L

end

section
/- bazaar/addr.From. -/
set_option autoImplicit false
set_option maxRecDepth 100000
set_option linter.unusedVariables false
set_option linter.unusedSimpArgs false
namespace Go.Proofs.Ytnchnjkakddhlaa.L
open Go Go.Abs

theorem zsZ {R : Type} (a b c d e f g i j k m n o p q r : UInt8) (K : AV → Option R) : zbs Try.prog [] 100 4 [] [] 64 [.sl (some (0, 0)) 16 0 false] [.cells [.int .u8 ((a.toNat : Nat) : Int), .int .u8 ((b.toNat : Nat) : Int), .int .u8 ((c.toNat : Nat) : Int), .int .u8 ((d.toNat : Nat) : Int), .int .u8 ((e.toNat : Nat) : Int), .int .u8 ((f.toNat : Nat) : Int), .int .u8 ((g.toNat : Nat) : Int), .int .u8 ((i.toNat : Nat) : Int), .int .u8 ((j.toNat : Nat) : Int), .int .u8 ((k.toNat : Nat) : Int), .int .u8 ((m.toNat : Nat) : Int), .int .u8 ((n.toNat : Nat) : Int), .int .u8 ((o.toNat : Nat) : Int), .int .u8 ((p.toNat : Nat) : Int), .int .u8 ((q.toNat : Nat) : Int), .int .u8 ((r.toNat : Nat) : Int)] 1 .far none] (fun v _ => K v) = K (.tup [.agg (zdm [a, b, c, d, e, f, g, i, j, k, m, n, o, p, q, r] 0), .int .i64 0]) := by kernel_rfl
theorem zvW {R : Type} (a b c d : UInt8) (K : AV → Option R) : zbs Try.prog [] 100 4 [] [] 64 [.sl (some (0, 0)) 4 0 false] [.cells [.int .u8 ((a.toNat : Nat) : Int), .int .u8 ((b.toNat : Nat) : Int), .int .u8 ((c.toNat : Nat) : Int), .int .u8 ((d.toNat : Nat) : Int)] 1 .far none] (fun v _ => K v) = K (.tup [.agg (zhr [a, b, c, d] 0), .int .i64 0]) := by kernel_rfl

theorem zwo : SoundE Try.prog 64 (zbj (zmG 0 2)) := by
 refine zax fun args h v h' hg => ?_
 unfold zmG at hg
 split at hg
 · rename_i b
   split at hg
   · rename_i hn
     simp only [Option.some.injEq, Prod.mk.injEq] at hg
     obtain ⟨hb, rfl, rfl⟩ := hg
     refine ⟨rfl, rfl, [slB 0 (bOf h b)], [zaC (bOf h b)], .cons _ _ _ _ _ _ _ (zaJ hb 0) (.nil _), ?_⟩
     have hl := zbt hb
     rw [hn] at hl
     generalize bOf h b = l at hl
     obtain ⟨a, b, c, d, e, f, g, i, j, k, m, n, o, p, q, r, rfl⟩ := zdT hl
     exact Runs.valT0 (zar _) (F := 100) (n := 4) (pr := []) (zsZ a b c d e f g i j k m n o p q r _)
   · rename_i hn
     simp only [Option.some.injEq, Prod.mk.injEq] at hg
     obtain ⟨hb, rfl, rfl⟩ := hg
     refine ⟨rfl, rfl, [slB 0 (bOf h b)], [zaC (bOf h b)], .cons _ _ _ _ _ _ _ (zaJ hb 0) (.nil _), ?_⟩
     have hl := zbt hb
     rw [hn] at hl
     generalize bOf h b = l at hl
     obtain ⟨a, b, c, d, rfl⟩ := zfQ hl
     exact Runs.valT0 (zar _) (F := 100) (n := 4) (pr := []) (zvW a b c d _)
   · simp at hg
 · simp at hg

end Go.Proofs.Ytnchnjkakddhlaa.L

end

section
/- bazaar/bazaarref1.Valid. -/
set_option autoImplicit false
set_option maxRecDepth 100000
set_option linter.unusedVariables false
set_option linter.unusedSimpArgs false
namespace Go.Proofs.Ytnchnjkakddhlaa.L
open Go Go.Abs

theorem ztA {R : Type} (x0 x1 x2 x3 x4 x5 x6 x7 x8 x9 x10 x11 x12 x13 x14 x15 : Int) (K : AV → Option R) :
 zbs Try.prog [] 100 6 [] [] 24 [.agg (zbx true x0 x1 x2 x3 x4 x5 x6 x7 x8 x9 x10 x11 x12 x13 x14 x15)] [] (fun v _ => K v) =
 K (AV.bool true) := by
  kernel_rfl

theorem zsb {R : Type} (x0 x1 x2 x3 x4 x5 x6 x7 x8 x9 x10 x11 x12 x13 x14 x15 : Int) (K : AV → Option R) :
 zbs Try.prog [] 100 6 [] [] 24 [.agg (zbx false x0 x1 x2 x3 x4 x5 x6 x7 x8 x9 x10 x11 x12 x13 x14 x15)] [] (fun v _ => K v) =
 (if (zad (some (AV.int IntKind.u8 x4)) != 0) = true then
 K (AV.bool false)
 else (if (zad (some (AV.int IntKind.u8 x5)) != 0) = true then
 K (AV.bool false)
 else (if (zad (some (AV.int IntKind.u8 x6)) != 0) = true then
 K (AV.bool false)
 else (if (zad (some (AV.int IntKind.u8 x7)) != 0) = true then
 K (AV.bool false)
 else (if (zad (some (AV.int IntKind.u8 x8)) != 0) = true then
 K (AV.bool false)
 else (if (zad (some (AV.int IntKind.u8 x9)) != 0) = true then
 K (AV.bool false)
 else (if (zad (some (AV.int IntKind.u8 x10)) != 0) = true then
 K (AV.bool false)
 else (if (zad (some (AV.int IntKind.u8 x11)) != 0) = true then
 K (AV.bool false)
 else (if (zad (some (AV.int IntKind.u8 x12)) != 0) = true then
 K (AV.bool false)
 else (if (zad (some (AV.int IntKind.u8 x13)) != 0) = true then
 K (AV.bool false)
 else (if (zad (some (AV.int IntKind.u8 x14)) != 0) = true then
 K (AV.bool false)
 else (if (zad (some (AV.int IntKind.u8 x15)) != 0) = true then
 K (AV.bool false)
 else K (AV.bool true))))))))))))) := by
  kernel_rfl


theorem zxD : SoundE Try.prog 24 (zbj zsJ) := by
 refine zax fun args h v h' hg => ?_
 unfold zsJ at hg
 split at hg
 · rename_i cs
   simp only [Option.some.injEq, Prod.mk.injEq] at hg
   obtain ⟨hw, rfl, rfl⟩ := hg
   obtain ⟨v, x0, x1, x2, x3, x4, x5, x6, x7, x8, x9, x10, x11, x12, x13, x14, x15, rfl, b0, b1, b2, b3, b4, b5, b6, b7, b8, b9, b10, b11, b12, b13, b14, b15⟩ := zfK hw
   refine ⟨rfl, rfl, [.agg (zbx v x0 x1 x2 x3 x4 x5 x6 x7 x8 x9 x10 x11 x12 x13 x14 x15)], [], .cons _ _ _ _ _ _ _ (.flat _ _ rfl) (.nil _), ?_⟩
   cases v
   · refine Runs.valT0 (zar _) (F := 100) (n := 6) (pr := []) ?_
     rw [zsb]
     have e : zbd (zbx false x0 x1 x2 x3 x4 x5 x6 x7 x8 x9 x10 x11 x12 x13 x14 x15) = [AV.int .u8 x4, AV.int .u8 x5, AV.int .u8 x6, AV.int .u8 x7, AV.int .u8 x8, AV.int .u8 x9, AV.int .u8 x10, AV.int .u8 x11, AV.int .u8 x12, AV.int .u8 x13, AV.int .u8 x14, AV.int .u8 x15].all zlN := rfl
     rw [e]
     clear hw b0 b1 b2 b3 b4 b5 b6 b7 b8 b9 b10 b11 b12 b13 b14 b15 e
     by_cases h4 : x4 = 0
     case neg => exact (if_pos (by simpa using h4)).trans (by simp [h4])
     refine (if_neg (by simpa using h4)).trans ?_
     by_cases h5 : x5 = 0
     case neg => exact (if_pos (by simpa using h5)).trans (by simp [h5])
     refine (if_neg (by simpa using h5)).trans ?_
     by_cases h6 : x6 = 0
     case neg => exact (if_pos (by simpa using h6)).trans (by simp [h6])
     refine (if_neg (by simpa using h6)).trans ?_
     by_cases h7 : x7 = 0
     case neg => exact (if_pos (by simpa using h7)).trans (by simp [h7])
     refine (if_neg (by simpa using h7)).trans ?_
     by_cases h8 : x8 = 0
     case neg => exact (if_pos (by simpa using h8)).trans (by simp [h8])
     refine (if_neg (by simpa using h8)).trans ?_
     by_cases h9 : x9 = 0
     case neg => exact (if_pos (by simpa using h9)).trans (by simp [h9])
     refine (if_neg (by simpa using h9)).trans ?_
     by_cases h10 : x10 = 0
     case neg => exact (if_pos (by simpa using h10)).trans (by simp [h10])
     refine (if_neg (by simpa using h10)).trans ?_
     by_cases h11 : x11 = 0
     case neg => exact (if_pos (by simpa using h11)).trans (by simp [h11])
     refine (if_neg (by simpa using h11)).trans ?_
     by_cases h12 : x12 = 0
     case neg => exact (if_pos (by simpa using h12)).trans (by simp [h12])
     refine (if_neg (by simpa using h12)).trans ?_
     by_cases h13 : x13 = 0
     case neg => exact (if_pos (by simpa using h13)).trans (by simp [h13])
     refine (if_neg (by simpa using h13)).trans ?_
     by_cases h14 : x14 = 0
     case neg => exact (if_pos (by simpa using h14)).trans (by simp [h14])
     refine (if_neg (by simpa using h14)).trans ?_
     by_cases h15 : x15 = 0
     case neg => exact (if_pos (by simpa using h15)).trans (by simp [h15])
     refine (if_neg (by simpa using h15)).trans ?_
     simp [h4, h5, h6, h7, h8, h9, h10, h11, h12, h13, h14, h15]
   · refine Runs.valT0 (zar _) (F := 100) (n := 6) (pr := []) ?_
     rw [ztA]
     rfl
 · simp at hg

end Go.Proofs.Ytnchnjkakddhlaa.L

end

section
/- bazaaralike's Round. -/
set_option autoImplicit false
set_option maxRecDepth 100000
set_option linter.unusedVariables false
namespace Go.Proofs.Ytnchnjkakddhlaa.L
open Go Go.Abs

def ztG : zdD := fun args h => match args with
 | [.int .i64 k, .int .i64 n] => some (decide (0 < n ∧ n < 4611686018427387904), .int .i64 (k % n), h)
 | _ => none

theorem zxM {R : Type} (k n : Int) (K : AV → Option R) : zch Try.prog (za5 Try.prog [] 100 4) (zdF [] (zbL Try.prog (za5 Try.prog [] 100 4) 100 4 (zaB Try.prog 17))) 17 [.int .i64 k, .int .i64 n] [] (fun v _ => K v) =
 if n = 0 then none else if n = 0 then none else K (.int .i64 ((IntKind.i64.wrap (k.tmod n + n)).tmod n)) := by
  kernel_rfl

theorem zvy {k n : Int} (h : 0 < n ∧ n < 4611686018427387904) : (IntKind.i64.wrap (k.tmod n + n)).tmod n = k % n := by
 have hd := Int.tmod_eq_emod (a := k) (b := n)
 have he := Int.emod_nonneg k (show n ≠ 0 by omega)
 have hl := Int.emod_lt_of_pos k h.1
 have hn : ((n.natAbs : Nat) : Int) = n := by omega
 split at hd
 · rw [hd, zao (by omega), Int.tmod_eq_emod_of_nonneg (by omega), Int.add_emod_right, Int.sub_emod]
   simp
 · rw [hd, hn, zao (by omega), Int.tmod_eq_emod_of_nonneg (by omega), Int.sub_add_cancel, Int.emod_emod]

theorem zz8 : SoundE Try.prog 17 (zbj ztG) := by
 refine zax fun args h v h' hg => ?_
 unfold ztG at hg
 split at hg
 · rename_i k n
   simp only [Option.some.injEq, Prod.mk.injEq, decide_eq_true_eq] at hg
   obtain ⟨hn, rfl, rfl⟩ := hg
   refine ⟨rfl, rfl, [.int .i64 k, .int .i64 n], [], .cons _ _ _ _ _ _ _ (.flat _ _ rfl) (.cons _ _ _ _ _ _ _ (.flat _ _ rfl) (.nil _)), ?_⟩
   refine Runs.val0 (zar _) (F := 100) (n := 4) ?_
   rw [zxM, if_neg (by omega), if_neg (by omega), zvy hn]
 · simp at hg

end Go.Proofs.Ytnchnjkakddhlaa.L

end

section
/- A flow, a server of so many. -/
set_option autoImplicit false
set_option maxRecDepth 100000
set_option linter.unusedVariables false
set_option linter.unusedSimpArgs false
namespace Go.Proofs.Ytnchnjkakddhlaa.L
open Go Go.Abs

noncomputable def zAR : Tbl := [(17, zbj ztG)]
theorem zt7 : ∀ f E, zAR.find f = some E → SoundE Try.prog f E := zal zz8 (zar _)
theorem zyT {R : Type} (n : Int) (v : Bool) (K : AV → Option R) :
 zbs Try.prog zAR 100 6 [] [] 12 [.int .i64 n, .bool v, .bool true] [] (fun v _ => K v) =
 K (AV.agg [AV.int IntKind.u8 17, AV.bool v, AV.int IntKind.u8 10, AV.int IntKind.u8 (IntKind.u8.wrap ((IntKind.u32.wrap (n % 1073741824)).fdiv 65536)), AV.int IntKind.u8 (IntKind.u8.wrap ((IntKind.u32.wrap (n % 1073741824)).fdiv 256)), AV.int IntKind.u8 (IntKind.u8.wrap (IntKind.u32.wrap (n % 1073741824))), AV.int IntKind.u8 0, AV.int IntKind.u8 0, AV.int IntKind.u8 0, AV.int IntKind.u8 0, AV.int IntKind.u8 0, AV.int IntKind.u8 0, AV.int IntKind.u8 0, AV.int IntKind.u8 0, AV.int IntKind.u8 0, AV.int IntKind.u8 0, AV.int IntKind.u8 0, AV.int IntKind.u8 0, AV.bool v, AV.int IntKind.u8 192, AV.int IntKind.u8 168, AV.int IntKind.u8 0, AV.int IntKind.u8 1, AV.int IntKind.u8 0, AV.int IntKind.u8 0, AV.int IntKind.u8 0, AV.int IntKind.u8 0, AV.int IntKind.u8 0, AV.int IntKind.u8 0, AV.int IntKind.u8 0, AV.int IntKind.u8 0, AV.int IntKind.u8 0, AV.int IntKind.u8 0, AV.int IntKind.u8 0, AV.int IntKind.u8 0, AV.int IntKind.u16 (IntKind.u16.wrap (IntKind.u32.wrap (1000 + (IntKind.u32.wrap (n % 1073741824)).tmod 50000))), AV.int IntKind.u16 80]) := by
  kernel_rfl

theorem zzE {R : Type} (n : Int) (v : Bool) (K : AV → Option R) :
 zbs Try.prog zAR 100 6 [] [] 12 [.int .i64 n, .bool v, .bool false] [] (fun v _ => K v) =
 K (AV.agg [AV.int IntKind.u8 6, AV.bool v, AV.int IntKind.u8 10, AV.int IntKind.u8 (IntKind.u8.wrap ((IntKind.u32.wrap (n % 1073741824)).fdiv 65536)), AV.int IntKind.u8 (IntKind.u8.wrap ((IntKind.u32.wrap (n % 1073741824)).fdiv 256)), AV.int IntKind.u8 (IntKind.u8.wrap (IntKind.u32.wrap (n % 1073741824))), AV.int IntKind.u8 0, AV.int IntKind.u8 0, AV.int IntKind.u8 0, AV.int IntKind.u8 0, AV.int IntKind.u8 0, AV.int IntKind.u8 0, AV.int IntKind.u8 0, AV.int IntKind.u8 0, AV.int IntKind.u8 0, AV.int IntKind.u8 0, AV.int IntKind.u8 0, AV.int IntKind.u8 0, AV.bool v, AV.int IntKind.u8 192, AV.int IntKind.u8 168, AV.int IntKind.u8 0, AV.int IntKind.u8 1, AV.int IntKind.u8 0, AV.int IntKind.u8 0, AV.int IntKind.u8 0, AV.int IntKind.u8 0, AV.int IntKind.u8 0, AV.int IntKind.u8 0, AV.int IntKind.u8 0, AV.int IntKind.u8 0, AV.int IntKind.u8 0, AV.int IntKind.u8 0, AV.int IntKind.u8 0, AV.int IntKind.u8 0, AV.int IntKind.u16 (IntKind.u16.wrap (IntKind.u32.wrap (1000 + (IntKind.u32.wrap (n % 1073741824)).tmod 50000))), AV.int IntKind.u16 80]) := by
  kernel_rfl

theorem zAU {R : Type} (n : Int) (v : Bool) (K : AV → Option R) :
 zbs Try.prog zAR 100 6 [] [] 13 [.int .i64 n, .bool v] [] (fun v _ => K v) =
 K (AV.agg [AV.bool v, AV.int IntKind.u8 172, AV.int IntKind.u8 16, AV.int IntKind.u8 0, AV.int IntKind.u8 (IntKind.u8.wrap (IntKind.i64.wrap (1 + n % 200))), AV.int IntKind.u8 0, AV.int IntKind.u8 0, AV.int IntKind.u8 0, AV.int IntKind.u8 0, AV.int IntKind.u8 0, AV.int IntKind.u8 0, AV.int IntKind.u8 0, AV.int IntKind.u8 0, AV.int IntKind.u8 0, AV.int IntKind.u8 0, AV.int IntKind.u8 0, AV.int IntKind.u8 0, AV.int IntKind.u16 (IntKind.u16.wrap (IntKind.i64.wrap (8000 + n % 1000)))]) := by
  kernel_rfl


theorem zBR : SoundE Try.prog 12 (zbj zBx) := by
 refine zax fun args h v h' hg => ?_
 unfold zBx at hg
 split at hg
 · rename_i n v u
   simp only [Option.some.injEq, Prod.mk.injEq, true_and] at hg
   obtain ⟨rfl, rfl⟩ := hg
   refine ⟨rfl, rfl, [.int .i64 n, .bool v, .bool u], [], .cons _ _ _ _ _ _ _ (.flat _ _ rfl) (.cons _ _ _ _ _ _ _ (.flat _ _ rfl) (.cons _ _ _ _ _ _ _ (.flat _ _ rfl) (.nil _))), ?_⟩
   have w0 : IntKind.u32.wrap (n % 1073741824) = n % 1073741824 := zty (by omega)
   have w1 : IntKind.u8.wrap ((n % 1073741824).fdiv 65536) = kb1 n := by rw [zn3, Int.fdiv_eq_ediv_of_nonneg _ (by omega)]; rfl
   have w2 : IntKind.u8.wrap ((n % 1073741824).fdiv 256) = kb2 n := by rw [zn3, Int.fdiv_eq_ediv_of_nonneg _ (by omega)]; rfl
   have w3 : IntKind.u8.wrap (n % 1073741824) = kb3 n := by rw [zn3]; rfl
   have w4 : IntKind.u16.wrap (IntKind.u32.wrap (1000 + (n % 1073741824).tmod 50000)) = zat n := by
    rw [Int.tmod_eq_emod_of_nonneg (by omega), zty (by omega), zb7 (by omega)]; rfl
   cases u
   · refine Runs.valT0 zt7 (F := 100) (n := 6) (pr := []) ?_
     rw [zzE, w0, w1, w2, w3, w4]
     rfl
   · refine Runs.valT0 zt7 (F := 100) (n := 6) (pr := []) ?_
     rw [zyT, w0, w1, w2, w3, w4]
     rfl
 · simp at hg

theorem zBU : SoundE Try.prog 13 (zbj zA8) := by
 refine zax fun args h v h' hg => ?_
 unfold zA8 at hg
 split at hg
 · rename_i n v
   simp only [Option.some.injEq, Prod.mk.injEq, true_and] at hg
   obtain ⟨rfl, rfl⟩ := hg
   refine ⟨rfl, rfl, [.int .i64 n, .bool v], [], .cons _ _ _ _ _ _ _ (.flat _ _ rfl) (.cons _ _ _ _ _ _ _ (.flat _ _ rfl) (.nil _)), ?_⟩
   have w1 : IntKind.u8.wrap (IntKind.i64.wrap (1 + n % 200)) = db3 n := by rw [zao (by omega), zwr (by omega)]; rfl
   have w2 : IntKind.u16.wrap (IntKind.i64.wrap (8000 + n % 1000)) = zaF n := by rw [zao (by omega), zb7 (by omega)]; rfl
   refine Runs.valT0 zt7 (F := 100) (n := 6) (pr := []) ?_
   rw [zAU, w1, w2]
   rfl
 · simp at hg

end Go.Proofs.Ytnchnjkakddhlaa.L

namespace Go.Abs

theorem zgI {x : Int} (h : 0 ≤ x ∧ x < 256) : ((u8i x).toNat : Int) = x := by rw [zaG]; omega
def zb8 (n : Int) : List UInt8 := [10, u8i (kb1 n), u8i (kb2 n), u8i (kb3 n), 0, 0, 0, 0, 0, 0, 0, 0, 0, 0, 0, 0]
def zbA : List UInt8 := [192, 168, 0, 1, 0, 0, 0, 0, 0, 0, 0, 0, 0, 0, 0, 0]
def zbq (m : Int) : List UInt8 := [172, 16, 0, u8i (db3 m), 0, 0, 0, 0, 0, 0, 0, 0, 0, 0, 0, 0]
theorem za9 (v : Bool) (n : Int) : zbD v n = .bool v :: bys (zb8 n) := by
 simp [zbD, zbx, zb8, bys, zgI (zm3 n), zgI (zmW n), zgI (zl3 n)]
theorem zbN (v : Bool) : zce v = .bool v :: bys zbA := by simp [zce, zbx, zbA, bys]
theorem zh3 (v : Bool) (m : Int) : zfL v m = .bool v :: bys (zbq m) := by
 have := zsH m
 simp [zfL, zbx, zbq, bys, zgI (x := db3 m) (by omega)]

end Go.Abs

end

section
/- IPv4's packets. -/
set_option autoImplicit false
set_option linter.unusedVariables false
set_option linter.unusedSimpArgs false
namespace Go.Abs

def hdO (w : Nat) (L : Int) (p : UInt8) (C : Int) (S D O : List UInt8) : List UInt8 := [u8i (69 + w), 0, u8i (L / 256), u8i L, 0, 0, 64, 0, 64, p, u8i (C / 256), u8i C] ++ S ++ D ++ O
def pkO (w : Nat) (L : Int) (p : UInt8) (C : Int) (S D O d : List UInt8) : List UInt8 := hdO w L p C S D O ++ d

theorem zow {w : Nat} (hw : w ≤ 10) (L : Int) (p : UInt8) : ∃ K : Int, 0 < K ∧ ∀ (C : Int) (S D O : List UInt8), 0 ≤ C ∧ C < 65536 → S.length = 4 → D.length = 4 → zbi (hdO w L p C S D O) = K + C + zbi S + zbi D + zbi O := by
 refine ⟨zbi [u8i (69 + w), 0, u8i (L / 256), u8i L, 0, 0, 64, 0, 64, p], ?_, ?_⟩
 · have h1 := zaG (69 + w)
   simp only [zbi]
   omega
 · intro C S D O hC hS hD
   unfold hdO
   rw [zaV _ _ (by simp [hS, hD]), zaV _ _ (by simp [hS]), zaV _ _ (by simp)]
   have h1 := zaG (C / 256)
   have h2 := zaG C
   simp only [zbi]
   omega
theorem ziN (l : List UInt8) : zft l = 0 ↔ zbi l % 65535 = 0 ∧ 0 < zbi l := by
 have := za1 l
 unfold zft zfX zcE
 split <;> omega
theorem zqj {w : Nat} {L : Int} {p : UInt8} {C : Int} {S D T O : List UInt8} (hw : w ≤ 10) (hC : 0 ≤ C ∧ C < 65536) (hS : S.length = 4) (hD : D.length = 4) (hT : T.length = 4) (h : zft (hdO w L p C S D O) = 0) :
 zft (hdO w L p (zaR C D T) S T O) = 0 := by
 obtain ⟨K, hK, e⟩ := zow hw L p
 rw [ziN, e _ _ _ _ hC hS hD] at h
 rw [ziN, e _ _ _ _ (zbI _ _ hC) hS hT]
 have h1 := ziq D T C (by omega) (by omega) hC
 have h2 := zbI D T hC
 have h3 : zaR C D T = zhD C D T := if_pos ⟨by omega, by omega⟩
 rw [h3] at h2 ⊢
 have r1 := (za1 S).1
 have r2 := (za1 T).1
 have r3 := (za1 O).1
 have r4 := (za1 D).1
 omega
theorem zuU {w : Nat} {L : Int} {p : UInt8} {S D O : List UInt8} (hw : w ≤ 10) (hS : S.length = 4) (hD : D.length = 4) : zft (hdO w L p (zft (hdO w L p 0 S D O)) S D O) = 0 := by
 obtain ⟨K, hK, e⟩ := zow hw L p
 have hr := zf7 (hdO w L p 0 S D O)
 rw [ziN, e _ _ _ _ hr hS hD]
 have h0 := e 0 S D O (by omega) hS hD
 have h1 := za1 (hdO w L p 0 S D O)
 have h2 := zgX (n := 0 + zbi (hdO w L p 0 S D O)) (by omega)
 have r1 := (za1 S).1
 have r2 := (za1 D).1
 have r3 := (za1 O).1
 unfold zft zfX at *
 omega

theorem ze3 {l : List UInt8} (h : l.length = 4) : ∃ a b c d, l = [a, b, c, d] := by
 match l, h with
 | [a, b, c, d], _ => exact ⟨a, b, c, d, rfl⟩
theorem zkE {w : Nat} {L : Int} {p : UInt8} {C : Int} {S D O : List UInt8} (hS : S.length = 4) (hD : D.length = 4) (hO : O.length = 4 * w) : (hdO w L p C S D O).length = 20 + 4 * w := by simp [hdO, hS, hD, hO]; omega
theorem zpk {w : Nat} {L : Int} {p : UInt8} {C : Int} {S D O d : List UInt8} (hS : S.length = 4) (hD : D.length = 4) (hO : O.length = 4 * w) : (pkO w L p C S D O d).length = 20 + 4 * w + d.length := by simp [pkO, zkE hS hD hO]

def Z12 : List UInt8 := [0, 0, 0, 0, 0, 0, 0, 0, 0, 0, 0, 0]
theorem zum {w : Nat} {L : Int} {p : UInt8} {C : Int} {S D O d : List UInt8} (hw : w ≤ 10) (hS : S.length = 4) (hD : D.length = 4) (hO : O.length = 4 * w) (hL : 20 + 4 * (w : Int) ≤ L ∧ L ≤ 65535 ∧ L ≤ 20 + 4 * (w : Int) + d.length) (hp : p = 6 ∨ p = 17)
 (hv : zft (hdO w L p C S D O) = 0) :
 r4 (pkO w L p C S D O d) = 0 ∧ zdo (pkO w L p C S D O d) = [.int .i64 (20 + 4 * (w : Int)), .int .i64 L, .int .u8 p.toNat] ++ (.bool false :: bys (S ++ Z12)) ++ (.bool false :: bys (D ++ Z12)) := by
 have hlen : (pkO w L p C S D O d).length = 20 + 4 * w + d.length := zpk hS hD hO
 have b0 : byt (pkO w L p C S D O d) 0 = 69 + w := by
  show ((u8i (69 + w)).toNat : Int) = _
  rw [zaG]; omega
 have b2 : zan (pkO w L p C S D O d) 2 = L := by
  show ((u8i (L / 256)).toNat : Int) * 256 + ((u8i L).toNat : Int) = L
  rw [zaG, zaG]; omega
 have b6 : zan (pkO w L p C S D O d) 6 = 16384 := by
  show ((64 : UInt8).toNat : Int) * 256 + ((0 : UInt8).toNat : Int) = 16384
  decide
 have b9 : byt (pkO w L p C S D O d) 9 = p.toNat := rfl
 have hpp : (p.toNat : Int) = 6 ∨ (p.toNat : Int) = 17 := by rcases hp with rfl | rfl <;> simp
 have hs : s4 (pkO w L p C S D O d) = 20 + 4 * (w : Int) := by unfold s4; rw [b0]; omega
 have ht : (pkO w L p C S D O d).take (s4 (pkO w L p C S D O d)).toNat = hdO w L p C S D O := by
  rw [hs]; unfold pkO
  exact List.take_left' (by rw [zkE hS hD hO]; omega)
 have hr : r4 (pkO w L p C S D O d) = 0 := by
  unfold r4
  rw [ht, hv, b0, b2, b6, b9, hlen, hs, if_neg (by omega), if_neg (by omega), if_neg (by omega), if_neg (by omega), if_neg (by omega), if_neg (by omega), if_neg (by omega), if_neg (by omega)]
 refine ⟨hr, ?_⟩
 obtain ⟨s0, s1, s2, s3, rfl⟩ := ze3 hS
 obtain ⟨t0, t1, t2, t3, rfl⟩ := ze3 hD
 unfold zdo zdl z4
 simp only [hr, hs, b2, b9, if_true]
 rfl
theorem zoi (v : Int) : ziA v 2 = [u8i (v / 256), u8i v] := by
 show [u8i (v.fdiv 256), u8i (v.fdiv 1)] = _
 rw [Int.fdiv_eq_ediv_of_nonneg _ (by omega), Int.fdiv_eq_ediv_of_nonneg _ (by omega), Int.ediv_one]
theorem zvP {w : Nat} {L : Int} {p : UInt8} {C : Int} {S D O d X T : List UInt8} (hS : S.length = 4) (hD : D.length = 4) (hC : 0 ≤ C ∧ C < 65536) (hX : X.take 4 = T) (hT : T.length = 4) (hr : r4 (pkO w L p C S D O d) = 0) :
 zc6 (pkO w L p C S D O d) (.bool false :: bys X) = pkO w L p (zaR C D T) S T O d := by
 have b10 : zan (pkO w L p C S D O d) 10 = C := by
  show ((u8i (C / 256)).toNat : Int) * 256 + ((u8i C).toNat : Int) = C
  rw [zaG, zaG]; omega
 unfold zc6 c4
 rw [if_pos ⟨hr, rfl⟩, zcF, hX, b10]
 obtain ⟨s0, s1, s2, s3, rfl⟩ := ze3 hS
 obtain ⟨t0, t1, t2, t3, rfl⟩ := ze3 hD
 obtain ⟨a, b, c, e, rfl⟩ := ze3 hT
 have h16 : ((pkO w L p C [s0, s1, s2, s3] [t0, t1, t2, t3] O d).drop 16).take 4 = [t0, t1, t2, t3] := rfl
 rw [h16, zoi]
 rfl
theorem zvO {n pr : Int} {X Y S D : List UInt8} (hn : 0 ≤ n ∧ n ≤ 65515) (hX : X.take 4 = S) (hY : Y.take 4 = D) : zfn (.bool false :: bys X) (.bool false :: bys Y) n ∧
 (S.length = 4 → D.length = 4 → zgp (.bool false :: bys X) (.bool false :: bys Y) pr n = hdO 0 (20 + n) (u8i pr) (zft (hdO 0 (20 + n) (u8i pr) 0 S D [])) S D []) := by
 have hm : zfn (.bool false :: bys X) (.bool false :: bys Y) n := ⟨rfl, rfl, hn.1, hn.2⟩
 refine ⟨hm, fun hS hD => ?_⟩
 unfold zgp
 rw [if_pos hm, zcF, zcF, hX, hY]
 obtain ⟨s0, s1, s2, s3, rfl⟩ := ze3 hS
 obtain ⟨t0, t1, t2, t3, rfl⟩ := ze3 hD
 unfold zyM
 rw [zoi]
 rfl
end Go.Abs

end

section
/- Flows' and servers' bytes; packets that are made. -/
set_option autoImplicit false
set_option linter.unusedVariables false
set_option linter.unusedSimpArgs false
namespace Go.Abs

def pk6 (ln : Int) (p : UInt8) (S D d : List UInt8) : List UInt8 := [96, 0, 0, 0, u8i (ln / 256), u8i ln, p, 64] ++ S ++ D ++ d

theorem zuO {ln : Int} {p : UInt8} {S D d : List UInt8} (hS : S.length = 16) : (pk6 ln p S D d).take 24 = [96, 0, 0, 0, u8i (ln / 256), u8i ln, p, 64] ++ S := by
 unfold pk6
 rw [List.append_assoc, List.take_append_of_le_length (by simp [hS])]
 exact List.take_of_length_le (by simp [hS])
theorem zuK {ln : Int} {p : UInt8} {S D d : List UInt8} (hS : S.length = 16) (hD : D.length = 16) : (pk6 ln p S D d).drop 40 = d := by
 unfold pk6
 exact List.drop_left' (by simp [hS, hD])
theorem zuw {ln : Int} {p : UInt8} {S D T d : List UInt8} (hS : S.length = 16) (hD : D.length = 16) (hr : r6 (pk6 ln p S D d) = 0) : zdw (pk6 ln p S D d) (.bool true :: bys T) = pk6 ln p S T d := by
 unfold zdw
 rw [if_pos ⟨hr, rfl⟩, zuO hS, zuK hS hD, zbY]
 simp [pk6]
end Go.Abs

end
