/- Texts that stand together: Num, Row, Loop, Fix, Pure, LawKit. -/
import Derived.Test.YtnchnjkakddhlaaAbsC
section
/- Numbers: bits, halves, sums that are folded. -/
set_option autoImplicit false
namespace Go.Abs

theorem zb7 {n : Int} (h : 0 ≤ n ∧ n < 65536) : IntKind.u16.wrap n = n := by
 simp [IntKind.wrap, IntKind.bits, IntKind.signed]; omega
theorem zbG {n : Int} (h : 0 ≤ n ∧ n < 18446744073709551616) : IntKind.u64.wrap n = n := by
 simp [IntKind.wrap, IntKind.bits, IntKind.signed]; omega
theorem zty {n : Int} (h : 0 ≤ n ∧ n < 4294967296) : IntKind.u32.wrap n = n := by
 simp [IntKind.wrap, IntKind.bits, IntKind.signed]; omega
theorem zwr {n : Int} (h : 0 ≤ n ∧ n < 256) : IntKind.u8.wrap n = n := by
 simp [IntKind.wrap, IntKind.bits, IntKind.signed]; omega
theorem zao {n : Int} (h : -9223372036854775808 ≤ n ∧ n < 9223372036854775808) : IntKind.i64.wrap n = n := by
 simp [IntKind.wrap, IntKind.bits, IntKind.signed]; omega
theorem zn3 (n : Int) : IntKind.u8.wrap n = n % 256 := by simp [IntKind.wrap, IntKind.bits, IntKind.signed]
theorem zdf (w a : Nat) (ha : a < 2 ^ w) : (BitVec.ofInt w (a : Int)).toNat = a := by
 rw [BitVec.ofInt_natCast, BitVec.toNat_ofNat]; exact Nat.mod_eq_of_lt ha

theorem zzi {n : Int} (h : 0 ≤ n ∧ n < 18446744073709551616) : zaU .u64 (· &&& ·) n 65535 = n % 65536 := by
 obtain ⟨a, rfl⟩ := Int.eq_ofNat_of_zero_le h.1
 have h1 : (BitVec.ofInt 64 (65535 : Int)).toNat = 65535 := by decide
 have h2 := zdf 64 a (by omega)
 show IntKind.u64.wrap ((BitVec.ofInt 64 (a : Int) &&& BitVec.ofInt 64 (65535 : Int)).toNat : Int) = _
 rw [BitVec.toNat_and, h2, h1, show (65535 : Nat) = 2 ^ 16 - 1 by rfl, Nat.and_two_pow_sub_one_eq_mod]
 rw [zbG (by omega)]
 omega

theorem zpq {n : Int} (h : 0 ≤ n ∧ n < 65536) : zaU .u16 (· ^^^ ·) 65535 n = 65535 - n := by
 obtain ⟨a, rfl⟩ := Int.eq_ofNat_of_zero_le h.1
 show IntKind.u16.wrap ((BitVec.ofInt 16 (65535 : Int) ^^^ BitVec.ofInt 16 (a : Int)).toNat : Int) = _
 have h1 : BitVec.ofInt 16 (65535 : Int) = BitVec.allOnes 16 := by decide
 rw [h1, BitVec.allOnes_xor, BitVec.toNat_not, zdf 16 a (by omega)]
 rw [zb7 (by omega)]
 omega

def zcE (n : Int) : Int := if n = 0 then 0 else (n - 1) % 65535 + 1

theorem zj3 {n : Int} (h : 0 ≤ n) : zcE (n % 65536 + n / 65536) = zcE n := by
 unfold zcE
 by_cases h0 : n = 0
 · subst h0; rfl
 · have : n % 65536 + n / 65536 ≠ 0 := by omega
   rw [if_neg h0, if_neg this]; omega

theorem zjz {n : Int} (h : 0 ≤ n ∧ n < 65536) : zcE n = n := by
 unfold zcE
 split
 · omega
 · omega

theorem zcR (n : Int) : 0 ≤ zcE n ∧ zcE n < 65536 := by
 unfold zcE
 split
 · omega
 · omega

theorem zlB (n : Int) : n.fdiv 65536 = n / 65536 := by rw [Int.fdiv_eq_ediv_of_nonneg _ (by omega)]

end Go.Abs

end

section
/- Rows of bytes: as lists; how they are read, written, handed on. -/
set_option autoImplicit false
set_option linter.unusedVariables false
set_option linter.unusedSimpArgs false
namespace Go.Abs
variable {P : Program}

def bys (l : List UInt8) : List AV := l.map fun b => .int .u8 b.toNat

@[simp] theorem zp0 (k : IntKind) (n : Int) : AV.isCell (.int k n) = true := rfl
@[simp] theorem zyD (b : Bool) : AV.isCell (.bool b) = true := rfl
@[simp] theorem zyQ (b : List UInt8) : AV.isCell (.str b) = true := rfl
@[simp] theorem zzS (a : Option (Nat × Nat)) (n r : Nat) (e : Bool) : AV.isCell (.sl a n r e) = true := rfl
@[simp] theorem zcC (k : IntKind) (n : Int) : (AV.int k n).beq (.int k n) = true := by simp [AV.beq]
@[simp] theorem zBD (s : List UInt8) : (AV.str s).beq (.str s) = true := by simp [AV.beq]

theorem zyF : bys [] = [] := rfl
theorem ziu (b : UInt8) (l : List UInt8) : bys (b :: l) = .int .u8 b.toNat :: bys l := rfl
@[simp] theorem zah (l : List UInt8) : (bys l).length = l.length := by simp [bys]
@[simp] theorem zbF (l : List UInt8) (n : Nat) : (bys l).take n = bys (l.take n) := by simp [bys]
@[simp] theorem zb1 (l : List UInt8) (n : Nat) : (bys l).drop n = bys (l.drop n) := by simp [bys]
@[simp] theorem zqc (l m : List UInt8) : bys l ++ bys m = bys (l ++ m) := by simp [bys]
@[simp] theorem zbk (l : List UInt8) (i : Nat) : (bys l)[i]? = (l[i]?).map fun b => AV.int .u8 b.toNat := by simp [bys]
def byt (l : List UInt8) (i : Nat) : Int := ((l.getD i 0).toNat : Int)
theorem zaS (l : List UInt8) (i : Nat) : 0 ≤ byt l i ∧ byt l i < 256 := by
 have := (l.getD i 0).toNat_lt
 unfold byt; omega

@[simp] theorem zay {l : List UInt8} {i : Nat} : zaI .u8 ((l[i]?).map fun b => AV.int .u8 b.toNat) = decide (i < l.length) := by
 by_cases h : i < l.length
 · simp [List.getElem?_eq_getElem h, zaI, h]
 · simp [List.getElem?_eq_none (Nat.le_of_not_lt h), zaI, h]
@[simp] theorem zaM {l : List UInt8} {i : Nat} : zad ((l[i]?).map fun b => AV.int .u8 b.toNat) = byt l i := by
 unfold byt
 by_cases h : i < l.length
 · simp [List.getElem?_eq_getElem h, zad, List.getD]
 · simp [List.getElem?_eq_none (Nat.le_of_not_lt h), zad, List.getD]

@[simp] theorem zzk (l : List UInt8) : (bys l).all AV.isCell = true := by simp [bys, AV.isCell]
@[simp] theorem zyH (l : List UInt8) : (bys l).all ziR = true := by simp [bys, ziR]
@[simp] theorem zi9 : ∀ l : List UInt8, AV.frees (bys l) = true
 | [] => rfl
 | b :: l => by simp [ziu, AV.frees, AV.free, zi9 l]
@[simp] theorem zba (l : List UInt8) : (bys l).map zaA = l := by
 simp [bys, zaA, Function.comp_def]

def u8i (n : Int) : UInt8 := UInt8.ofNat (n % 256).toNat
theorem zaG (n : Int) : ((u8i n).toNat : Int) = n % 256 := by
 have : (n % 256).toNat < 256 := by omega
 simp [u8i, Nat.mod_eq_of_lt this]; omega
theorem zaH (n : Int) : IntKind.u8.wrap n = ((u8i n).toNat : Int) := by
 rw [zaG]; simp [IntKind.wrap, IntKind.bits, IntKind.signed]
@[simp] theorem zAQ (b : UInt8) : u8i (b.toNat : Int) = b := by
 have := b.toNat_lt
 have h : ((b.toNat : Int) % 256).toNat = b.toNat := by omega
 simp [u8i, h]
theorem zdt : ∀ (xs l : List UInt8) (o : Nat), o + xs.length ≤ l.length → zae (bys l) o (bys xs) = bys (l.take o ++ xs ++ l.drop (o + xs.length))
 | [], l, o, h => by simp [zyF, zae]
 | x :: xs, l, o, h => by
  simp only [List.length_cons] at h
  rw [ziu, zae]
  have e : (bys l).set o (.int .u8 x.toNat) = bys (l.set o x) := by simp [bys, List.map_set]
  rw [e, zdt xs (l.set o x) (o + 1) (by simp; omega)]
  congr 1
  have hs : l.set o x = l.take o ++ x :: l.drop (o + 1) := by rw [List.set_eq_take_append_cons_drop, if_pos (by omega)]
  have hlen : (l.take o).length = o := by simp; omega
  have h1 : (l.set o x).take (o + 1) = l.take o ++ [x] := by
   rw [hs, List.take_append, hlen, List.take_of_length_le (by omega)]
   simp
  have h2 : (l.set o x).drop (o + 1 + xs.length) = l.drop (o + (xs.length + 1)) := by
   rw [hs, List.drop_append, hlen, List.drop_of_length_le (by omega), show o + 1 + xs.length - o = xs.length + 1 by omega, List.drop_succ_cons, List.drop_drop, List.nil_append]
   congr 1; omega
  rw [h1, h2]
  simp

@[simp] theorem zak (xs vs : List AV) (o : Nat) : (zae vs o xs).length = vs.length := zcr xs vs o

theorem ze0 (l : List UInt8) (o : Nat) (n : Int) : zae (bys l) o [.int .u8 (IntKind.u8.wrap n)] = bys (l.set o (u8i n)) := by
 simp [zae, bys, List.map_set, zaH]
@[simp] theorem zdx (n : Nat) : zex n [AV.int .u8 0] = bys (List.replicate n 0) := by
 simp [zex, bys]


def zdA (h : zaa) (a : AV) : List AV := match a with
 | .sl (some (i, o)) n _ _ => match h[i]? with
  | some (.cells vs esz _ _) => (vs.drop o).take (n * esz)
  | _ => []
 | _ => []
def zd6 (h : zaa) (a : AV) (esz0 : Nat) : Bool := match a with
 | .sl none n c _ => decide (n = 0) && decide (c = 0)
 | .sl (some (i, o)) n _ _ => match h[i]? with
  | some (.cells vs esz _ _) => decide (esz = esz0) && decide (o + n * esz ≤ vs.length)
  | _ => false
 | _ => false

def zbC : AV → Bool
 | .int .u8 n => decide (0 ≤ n ∧ n < 256)
 | _ => false

@[simp] theorem za2 (l : List UInt8) : (bys l).all zbC = true := by
 simp only [bys, List.all_map, List.all_eq_true, Function.comp]
 intro b _
 have := b.toNat_lt
 simp [zbC]; omega

def bOk (h : zaa) (a : AV) : Bool := zd6 h a 1 && (zdA h a).all zbC
def bOf (h : zaa) (a : AV) : List UInt8 := (zdA h a).map zaA
def nOf : AV → Nat
 | .sl _ n _ _ => n
 | _ => 0

@[simp] theorem zby (a : Option (Nat × Nat)) (n r : Nat) (e : Bool) : nOf (.sl a n r e) = n := rfl

theorem zfa {l : List AV} (h : l.all zbC = true) : l = bys (l.map zaA) := by
 induction l with
 | nil => rfl
 | cons a l ih =>
  simp only [List.all_cons, Bool.and_eq_true] at h
  rw [List.map_cons, ziu, ← ih h.2]
  congr 1
  have h1 := h.1
  unfold zbC at h1
  split at h1
  · rename_i n
    simp only [decide_eq_true_eq] at h1
    simp [zaA, Nat.mod_eq_of_lt (show n.toNat < 256 by omega)]
    omega
  · simp at h1

abbrev slB (k : Nat) (l : List UInt8) : AV := .sl (some (k, 0)) l.length 0 false
abbrev zaC (l : List UInt8) : ABlk := .cells (bys l) 1 .far none
abbrev zbo (l : List UInt8) : ABlk := .cells (bys l) 1 .own none

theorem zaJ {h : zaa} {a : AV} (hb : bOk h a = true) (n : Nat) : Canon h n a (slB n (bOf h a)) [zaC (bOf h a)] := by
 unfold bOk at hb
 simp only [Bool.and_eq_true] at hb
 obtain ⟨h1, h2⟩ := hb
 have h3 := zfa h2
 unfold zd6 at h1
 split at h1
 · rename_i k c e
   simp only [Bool.and_eq_true, decide_eq_true_eq] at h1
   obtain ⟨rfl, rfl⟩ := h1
   exact .nil n e 1
 · rename_i i o k c e
   split at h1
   · rename_i vs esz md par hi
     simp only [Bool.and_eq_true, decide_eq_true_eq] at h1
     obtain ⟨rfl, h1⟩ := h1
     have e1 : zdA h (.sl (some (i, o)) k c e) = (vs.drop o).take (k * 1) := by simp [zdA, hi]
     rw [e1] at h3
     have e2 : bOf h (.sl (some (i, o)) k c e) = ((vs.drop o).take (k * 1)).map zaA := by rw [bOf, e1]
     rw [e2]
     have e3 : (((vs.drop o).take (k * 1)).map zaA).length = k := by simp; omega
     unfold slB zaC
     rw [e3, ← h3]
     exact .row n i o k c e vs 1 md par hi h1 (by rw [h3]; exact zi9 _)
   · simp at h1
 · simp at h1

theorem zbt {h : zaa} {a : AV} (hb : bOk h a = true) : (bOf h a).length = nOf a := by
 unfold bOk zd6 at hb
 simp only [Bool.and_eq_true] at hb
 obtain ⟨h1, h2⟩ := hb
 split at h1
 · simp only [Bool.and_eq_true, decide_eq_true_eq] at h1
   simp [bOf, zdA, nOf, h1]
 · split at h1
   · rename_i vs esz md par hi
     simp only [Bool.and_eq_true, decide_eq_true_eq] at h1
     obtain ⟨rfl, h1⟩ := h1
     simp [bOf, zdA, hi, nOf]
     omega
   · simp at h1
 · simp at h1

theorem zug {h1 : zaa} {n0 m k n : Nat} {vs : List AV} {l : List UInt8} {par : Option Nat} (hk : n0 ≤ k) (hb : h1[k]? = some (.cells vs 1 .own par)) (hv : vs = bys l) (hn : n = l.length) : Den h1 n0 m [some k] (.sl (some (k, 0)) n 0 false) (slB m l) [zbo l] := by
 subst hv hn
 have := Den.row (h1 := h1) (n0 := n0) m k 0 l.length 0 false (bys l) 1 par hk (by omega) hb ⟨by simp [zai], by simp [zai]⟩ (fun h => ⟨by have := List.eq_nil_of_length_eq_zero h; subst this; rfl, rfl⟩) (by simp)
 have e : ((bys l).drop 0).take (l.length * 1) = bys l := by rw [List.drop_zero, Nat.mul_one, zbF, List.take_length]
 rw [e] at this
 exact this
theorem zqf {h1 : zaa} {n0 m : Nat} {e : Bool} : Den h1 n0 m [none] (.sl none 0 0 e) (slB m []) [zbo []] := .nil m e 1

end Go.Abs

end

section
/- Loops that count; numbers made of bytes. -/
set_option autoImplicit false
set_option linter.unusedVariables false
namespace Go.Abs
variable {P : Program}

theorem znO {body : List AV → zaa → Option (AEx × List AV × zaa)} (st : Nat → List AV × zaa) {n : Nat} {e : AEx} {vs : List AV} {h : zaa} (he : e ≠ .norm)
 (step : ∀ i, i < n → body (st i).1 (st i).2 = some (.norm, (st (i + 1)).1, (st (i + 1)).2)) (stop : body (st n).1 (st n).2 = some (e, vs, h)) : ∃ j, zd7 body j (st 0).1 (st 0).2 = some (e, vs, h) := by
 have key : ∀ k i, i + k = n → ∃ j, zd7 body j (st i).1 (st i).2 = some (e, vs, h) := by
  intro k
  induction k with
  | zero =>
   intro i hi
   have : i = n := by omega
   subst this
   refine ⟨1, ?_⟩
   simp only [zd7, stop, Option.bind_some]
  | succ k ih =>
   intro i hi
   obtain ⟨j, hj⟩ := ih (i + 1) (by omega)
   refine ⟨j + 1, ?_⟩
   simp only [zd7, step i (by omega), Option.bind_some]
   exact hj
 exact key n 0 (by omega)


def beN (l : List UInt8) : Int := l.foldl (fun x b => x * 256 + (b.toNat : Int)) 0
theorem zoA (l : List UInt8) (b : UInt8) : beN (l ++ [b]) = beN l * 256 + b.toNat := by simp [beN]
theorem zrK (l : List UInt8) : 0 ≤ beN l ∧ beN l < 256 ^ l.length := by
 suffices h : ∀ k, ∀ l : List UInt8, l.length = k → 0 ≤ beN l ∧ beN l < 256 ^ k from h _ l rfl
 intro k
 induction k with
 | zero => intro l hl; have : l = [] := List.eq_nil_of_length_eq_zero hl; subst this; simp [beN]
 | succ k ih =>
  intro l hl
  obtain ⟨m, b, rfl⟩ : ∃ m b, l = m ++ [b] := ⟨l.dropLast, l.getLast (by rintro rfl; simp at hl), (List.dropLast_concat_getLast _).symm⟩
  rw [zoA]
  have := ih m (by simpa using hl)
  have hb := b.toNat_lt
  rw [Int.pow_succ]
  constructor
  · omega
  · omega
theorem zuZ {l : List UInt8} {i : Nat} (h : i < l.length) : beN (l.take (i + 1)) = beN (l.take i) * 256 + byt l i := by
 have : l.take (i + 1) = l.take i ++ [l[i]] := by rw [List.take_add_one, List.getElem?_eq_getElem h]; rfl
 rw [this, zoA]
 simp [byt, List.getD, h]

theorem zBt {a b : Int} (ha : 0 ≤ a ∧ a < 72057594037927936) (hb : 0 ≤ b ∧ b < 256) : zaU .u64 (· ||| ·) (IntKind.u64.wrap (a * 256)) (IntKind.u64.wrap b) = a * 256 + b := by
 rw [zbG (by omega), zbG (by omega)]
 obtain ⟨x, rfl⟩ := Int.eq_ofNat_of_zero_le ha.1
 obtain ⟨y, rfl⟩ := Int.eq_ofNat_of_zero_le hb.1
 have e1 : ((x : Int) * 256) = ((x * 256 : Nat) : Int) := by omega
 rw [e1]
 show IntKind.u64.wrap ((BitVec.ofInt 64 ((x * 256 : Nat) : Int) ||| BitVec.ofInt 64 (y : Int)).toNat : Int) = _
 rw [BitVec.toNat_or, zdf 64 _ (by omega), zdf 64 _ (by omega)]
 have e2 : x * 256 ||| y = x * 256 + y := by
  have := Nat.two_pow_add_eq_or_of_lt (i := 8) (b := y) (by omega) x
  rw [show x * 256 = 2 ^ 8 * x by omega]
  exact this.symm
 rw [e2, zbG (by omega)]
 omega

def zan (l : List UInt8) (i : Nat) : Int := byt l i * 256 + byt l (i + 1)
theorem zau (l : List UInt8) (i : Nat) : 0 ≤ zan l i ∧ zan l i < 65536 := by
 have h1 := zaS l i
 have h2 := zaS l (i + 1)
 unfold zan; omega

theorem zvp (l : List UInt8) (p i : Nat) : byt (l.drop p) i = byt l (p + i) := by simp [byt, List.getD]
theorem zf6 {l : List UInt8} {n i : Nat} (h : i < n) : byt (l.take n) i = byt l i := by simp [byt, List.getD, List.getElem?_take, h]

def zbv (l : List UInt8) (p n : Nat) : Int := beN ((l.drop p).take n)
theorem zhv {l : List UInt8} {p n : Nat} (h : p + n < l.length) : zbv l p (n + 1) = zbv l p n * 256 + byt l (p + n) := by
 unfold zbv
 rw [zuZ (by simp; omega), zvp]
theorem zka (l : List UInt8) (p : Nat) : zbv l p 0 = 0 := by simp [zbv, beN]
theorem ziL (l : List UInt8) (p n : Nat) : 0 ≤ zbv l p n ∧ zbv l p n < 256 ^ n := by
 have h := zrK ((l.drop p).take n)
 have : ((l.drop p).take n).length ≤ n := by rw [List.length_take]; exact Nat.min_le_left _ _
 have h2 : (256 : Int) ^ ((l.drop p).take n).length ≤ 256 ^ n := by
  have h3 := Nat.pow_le_pow_right (n := 256) (by omega) this
  rw [show (256 : Int) = ((256 : Nat) : Int) from rfl, ← Int.natCast_pow, ← Int.natCast_pow]
  exact Int.ofNat_le.2 h3
 unfold zbv; omega
theorem zcm {l : List UInt8} {p : Nat} (h : p + 2 ≤ l.length) : zbv l p 2 = zan l p := by
 rw [zhv (by omega), zhv (by omega), zka]; unfold zan; simp
end Go.Abs

end

section
/- A loop, a call, at one state alone; what a function does at given arguments. -/
set_option autoImplicit false
set_option linter.unusedVariables false
namespace Go.Abs
variable {P : Program}

noncomputable def zvr (m : List Bool) (vs0 : List AV) (h0 : zaa) (e : AEx) (vs1 : List AV) (h1 : zaa) : LoopF := zng m fun vs h => some (zaE (vs = vs0 ∧ h = h0), e, vs1, h1)

theorem zeJ {CALL : CallT} (SC : zcg P CALL) {LS : zcQ} {c : Code} (hL : zcU P LS c) {m : List Bool} {vs0 vs1 : List AV} {h0 h1 : zaa} {e : AEx} (H : ∃ j, zd7 (zbR P CALL LS c m) j vs0 h0 = some (e, vs1, h1)) : zcy P (zvr m vs0 h0 e vs1 h1) c := by
 refine @ziU P CALL SC LS c hL m _ fun vs h e' vs' h' hg => ?_
 simp only [Option.some.injEq, Prod.mk.injEq] at hg
 obtain ⟨hc, rfl, rfl, rfl⟩ := hg
 rw [zab] at hc
 obtain ⟨rfl, rfl⟩ := hc
 exact H

def Runs (P : Program) (f : FuncId) (args : List AV) (h : zaa) (v : AV) (h' : zaa) : Prop := ∃ E, SoundE P f E ∧ E.get args h = some (v, h')

noncomputable def zA9 (args0 : List AV) (h0 : zaa) (v : AV) (h1 : zaa) : Ent := zbj fun args h => some (zaE (args = args0 ∧ h = h0), v, h1)

theorem zkY {f : FuncId} {args0 : List AV} {h0 h1 : zaa} {v : AV} (H : Runs P f args0 h0 v h1) : SoundE P f (zA9 args0 h0 v h1) := by
 obtain ⟨E, hE, hx⟩ := H
 refine zga hE fun args h v' h' hg => ?_
 simp only [Option.some.injEq, Prod.mk.injEq] at hg
 obtain ⟨hc, rfl, rfl⟩ := hg
 rw [zab] at hc
 obtain ⟨rfl, rfl⟩ := hc
 exact hx

theorem zb0 {f : FuncId} {g : zdD}
 (hg : ∀ args h v h', g args h = some (true, v, h') → ∃ args1 h1, Canons h 0 args args1 h1 ∧ ∃ v1 h1', Runs P f args1 h1 v1 h1' ∧ ∃ ks new, h' = h ++ new ∧ Den h1' h1.length h.length ks v1 v new ∧ zkX ks) : SoundE P f (zbj g) :=
 zig fun args h v h' hx => by
  obtain ⟨args1, h1, hc, v1, h1', ⟨E, hE, hr⟩, k⟩ := hg _ _ _ _ hx
  exact ⟨E, hE, args1, h1, hc, v1, h1', hr, k⟩

theorem Runs.of {t : Tbl} (ht : ∀ f E, t.find f = some E → SoundE P f E) {F n : Nat} {ls : List (Nat × LoopF)} {f : FuncId} (hls : ∀ b ∈ za0 (zaB P f), ∀ s, zli ls (zaX b) = some s → zcy P s b) {args : List AV} {h : zaa} {v : AV} {h' : zaa}
 (hx : zch P (za5 P t F n) (zdF ls (zbL P (za5 P t F n) F 4 (zaB P f))) f args h (fun v h => some (v, h)) = some (v, h')) : Runs P f args h v h' :=
 ⟨zAb P t F n ls f, zhJ ht F n hls, hx⟩

theorem Runs.val {t : Tbl} (ht : ∀ f E, t.find f = some E → SoundE P f E) {F n : Nat} {ls : List (Nat × LoopF)} {f : FuncId} (hls : ∀ b ∈ za0 (zaB P f), ∀ s, zli ls (zaX b) = some s → zcy P s b) {args : List AV} {h : zaa} {v : AV}
 (hx : zch P (za5 P t F n) (zdF ls (zbL P (za5 P t F n) F 4 (zaB P f))) f args h (fun v _ => some v) = some v) : ∃ h', Runs P f args h v h' := by
 obtain ⟨h1, h2⟩ := zpZ hx
 exact ⟨h1, _, zhJ ht F n hls, h2⟩

theorem Runs.val0 {t : Tbl} (ht : ∀ f E, t.find f = some E → SoundE P f E) {F n : Nat} {f : FuncId} {args : List AV} {h : zaa} {v : AV}
 (hx : zch P (za5 P t F n) (zdF [] (zbL P (za5 P t F n) F 4 (zaB P f))) f args h (fun v _ => some v) = some v) : ∃ h', Runs P f args h v h' :=
 Runs.val ht (fun b _ s hs => by simp [zli] at hs) hx

theorem zax {f : FuncId} {g : zdD}
 (hg : ∀ args h v h', g args h = some (true, v, h') → h' = h ∧ v.free = true ∧ ∃ args1 h1, Canons h 0 args args1 h1 ∧ ∃ h1', Runs P f args1 h1 v h1') : SoundE P f (zbj g) :=
 zb0 fun args h v h' hx => by
  obtain ⟨rfl, hf, args1, h1, hc, h1', hr⟩ := hg _ _ _ _ hx
  exact ⟨args1, h1, hc, v, h1', hr, [], [], by simp, .flat _ _ hf, zAg⟩


theorem Runs.ofT {t : Tbl} (ht : ∀ f E, t.find f = some E → SoundE P f E) {F n : Nat} {pr : List (Nat × AV)} {ls : List (Nat × LoopF)} {f : FuncId} (hls : ∀ b ∈ za0 (zaB P f), ∀ s, zli ls (zaX b) = some s → zcy P s b) {args : List AV} {h : zaa} {v : AV} {h' : zaa}
 (hx : zbs P t F n pr ls f args h (fun v h => some (v, h)) = some (v, h')) : Runs P f args h v h' := by
 obtain ⟨v1, h1, e, hE⟩ := zkl ht hls hx
 simp only [Option.some.injEq, Prod.mk.injEq] at e
 obtain ⟨rfl, rfl⟩ := e
 exact hE
theorem Runs.ofT0 {t : Tbl} (ht : ∀ f E, t.find f = some E → SoundE P f E) {F n : Nat} {pr : List (Nat × AV)} {f : FuncId} {args : List AV} {h : zaa} {v : AV} {h' : zaa}
 (hx : zbs P t F n pr [] f args h (fun v h => some (v, h)) = some (v, h')) : Runs P f args h v h' := Runs.ofT ht (fun b _ s hs => by simp [zli] at hs) hx
theorem Runs.valT {t : Tbl} (ht : ∀ f E, t.find f = some E → SoundE P f E) {F n : Nat} {pr : List (Nat × AV)} {ls : List (Nat × LoopF)} {f : FuncId} (hls : ∀ b ∈ za0 (zaB P f), ∀ s, zli ls (zaX b) = some s → zcy P s b) {args : List AV} {h : zaa} {v : AV}
 (hx : zbs P t F n pr ls f args h (fun v _ => some v) = some v) : ∃ h', Runs P f args h v h' := by
 obtain ⟨v1, h1, e, hE⟩ := zkl ht hls hx
 simp only [Option.some.injEq] at e
 subst e
 exact ⟨_, hE⟩
theorem Runs.valT0 {t : Tbl} (ht : ∀ f E, t.find f = some E → SoundE P f E) {F n : Nat} {pr : List (Nat × AV)} {f : FuncId} {args : List AV} {h : zaa} {v : AV}
 (hx : zbs P t F n pr [] f args h (fun v _ => some v) = some v) : ∃ h', Runs P f args h v h' := Runs.valT ht (fun b _ s hs => by simp [zli] at hs) hx

theorem zwv {t : Tbl} {F n : Nat} {LS : zdd} {c : Code} {m : List Bool} {n0 : Nat} (st : Nat → List AV × zaa) {N : Nat} {e : AEx} {vs : List AV} {h : zaa} (he : e ≠ .norm)
 (step : ∀ i, i < N → ∃ pr vs1 h1, zcX P t F n pr LS c m (st i).1 (st i).2 = some (.norm, vs1, h1) ∧ Gc n0 vs1 h1 (st (i + 1)).1 (st (i + 1)).2)
 (stop : ∃ pr vs1 h1, zcX P t F n pr LS c m (st N).1 (st N).2 = some (e, vs1, h1) ∧ Gc n0 vs1 h1 vs h) : ∃ k, GReach (zbR P (ze4 P t F n) (lsT LS) c m) n0 k (st 0).1 (st 0).2 e vs h :=
 zss st he (fun i hi => by obtain ⟨pr, vs1, h1, h2, h3⟩ := step i hi; exact ⟨vs1, h1, zmc h2, h3⟩) (by obtain ⟨pr, vs1, h1, h2, h3⟩ := stop; exact ⟨vs1, h1, zmc h2, h3⟩)

noncomputable def zzc (q : Prop) (m : List Bool) (vs0 : List AV) (h0 : zaa) (e : AEx) (vs1 : List AV) (h1 : zaa) : LoopF := zng m fun vs h => some (zaE (q ∧ vs = vs0 ∧ h = h0), e, vs1, h1)

theorem zwC {t : Tbl} (ht : ∀ f E, t.find f = some E → SoundE P f E) {F n : Nat} {LS : zdd} {c : Code} (hL : zcU P (lsT LS) c) {q : Prop} {m : List Bool} {vs0 vs1 : List AV} {h0 h1 : zaa} {e : AEx}
 {n0 : Nat} (H : q → ∃ k, GReach (zbR P (ze4 P t F n) (lsT LS) c m) n0 k vs0 h0 e vs1 h1) (hn : h0.length = n0 := by rfl) : zcy P (zzc q m vs0 h0 e vs1 h1) c := by
 subst hn
 refine @zmj P _ (zeQ ht F n) _ c hL m _ fun vs h e' vs' h' hg => ?_
 simp only [Option.some.injEq, Prod.mk.injEq] at hg
 obtain ⟨hc, rfl, rfl, rfl⟩ := hg
 rw [zab] at hc
 obtain ⟨hq, rfl, rfl⟩ := hc
 exact H hq

theorem zyX {t : Tbl} (ht : ∀ f E, t.find f = some E → SoundE P f E) {F n : Nat} {LS : zdd} {c : Code} (hL : zcU P (lsT LS) c) {q : Prop} {m : List Bool} {vs0 vs1 : List AV} {h0 h1 : zaa} {e : AEx}
 {n0 : Nat} (H : q → ∃ vs2 h2, Pre n0 vs0 h0 vs2 h2 ∧ ∃ k, GReach (zbR P (ze4 P t F n) (lsT LS) c m) n0 k vs2 h2 e vs1 h1) (hn : h0.length = n0 := by rfl) : zcy P (zzc q m vs0 h0 e vs1 h1) c := by
 subst hn
 refine @zh0 P _ (zeQ ht F n) _ c hL m _ fun vs h e' vs' h' hg => ?_
 simp only [Option.some.injEq, Prod.mk.injEq] at hg
 obtain ⟨hc, rfl, rfl, rfl⟩ := hg
 rw [zab] at hc
 obtain ⟨hq, rfl, rfl⟩ := hc
 exact H hq

theorem only {c : Code} {k : Nat} {s : LoopF} (h : za0 c = [zb2 c 0]) (hs : zcy P s (zb2 c 0)) : ∀ b ∈ za0 c, ∀ s', zli [(k, s)] (zaX b) = some s' → zcy P s' b := by
 intro b hb s' hs'
 rw [h] at hb
 simp only [List.mem_singleton] at hb
 subst hb
 simp only [zli] at hs'
 split at hs'
 · cases hs'; exact hs
 · simp at hs'

theorem zBT {c : Code} {k k2 : Nat} {s s2 : LoopF} (h : za0 c = [zb2 c 0, zb2 c 1]) (h1 : zaX (zb2 c 0) = k) (h2 : zaX (zb2 c 1) = k2) (hk : k ≠ k2) (hs : zcy P s (zb2 c 0)) (hs2 : zcy P s2 (zb2 c 1)) :
 ∀ b ∈ za0 c, ∀ s', zli [(k, s), (k2, s2)] (zaX b) = some s' → zcy P s' b := by
 intro b hb s' hs'
 rw [h] at hb
 simp only [List.mem_cons, List.not_mem_nil, or_false] at hb
 rcases hb with rfl | rfl
 · simp only [zli, h1, if_true] at hs'
   cases hs'; exact hs
 · simp only [zli, h2, if_neg hk, if_true] at hs'
   cases hs'; exact hs2

def zf3 : Code → List (Code × Code)
 | .seq a b => zf3 a ++ zf3 b
 | .cond _ a b => zf3 a ++ zf3 b
 | .block _ a => zf3 a
 | .rangeFunc _ _ a b => [(a, b)]
 | _ => []
def zk9 (c : Code) (i : Nat) : Code × Code := (zf3 c).getD i (.skip, .skip)

def zrr : List (Nat × AV × zaa) → Nat → Option (AV × zaa)
 | [], _ => none
 | (k, x) :: l, n => bif k.beq n then some x else zrr l n
end Go.Abs

end

section
/- What the document says, of rows of bytes and numbers alone. -/
set_option autoImplicit false
set_option linter.unusedVariables false
namespace Go.Abs

def zbi : List UInt8 → Int
 | [] => 0
 | [a] => (a.toNat : Int) * 256
 | a :: b :: r => (a.toNat : Int) * 256 + b.toNat + zbi r

theorem za1 : ∀ l : List UInt8, 0 ≤ zbi l ∧ zbi l ≤ 65535 * (l.length : Int)
 | [] => by simp [zbi]
 | [a] => by have := a.toNat_lt; simp [zbi]; omega
 | a :: b :: r => by
  have h1 := a.toNat_lt
  have h2 := b.toNat_lt
  have := za1 r
  simp [zbi]; omega

theorem zrf {l : List UInt8} {i : Nat} (h : l.length ≤ i) : byt l i = 0 := by simp [byt, List.getD, List.getElem?_eq_none h]

theorem zjH {l : List UInt8} {i : Nat} (h : i < l.length) : zbi (l.drop i) = zan l i + zbi (l.drop (i + 2)) := by
 rw [List.drop_eq_getElem_cons h]
 have e1 : byt l i = (l[i]).toNat := by simp [byt, List.getD, h]
 by_cases h2 : i + 1 < l.length
 · rw [List.drop_eq_getElem_cons h2]
   have e2 : byt l (i + 1) = (l[i + 1]).toNat := by simp [byt, List.getD, h2]
   simp [zbi, zan, e1, e2]
 · rw [List.drop_of_length_le (show l.length ≤ i + 1 by omega), List.drop_of_length_le (show l.length ≤ i + 2 by omega)]
   simp [zbi, zan, e1, zrf (show l.length ≤ i + 1 by omega)]

def zfX (l : List UInt8) (s : Int) : Int := zcE (s + zbi l)
def zft (l : List UInt8) : Int := 65535 - zfX l 0
def zfJ (o f t : Int) : Int := 65535 - zcE ((65535 - o) + (65535 - f) + t)
def zhD : Int → List UInt8 → List UInt8 → Int
 | o, a :: b :: r, c :: d :: s => zhD (zfJ o ((a.toNat : Int) * 256 + b.toNat) ((c.toNat : Int) * 256 + d.toNat)) r s
 | o, _, _ => o
def zaR (o : Int) (f t : List UInt8) : Int := if f.length = t.length ∧ f.length % 2 = 0 then zhD o f t else o

theorem zcZ (o f t : Int) : 0 ≤ zfJ o f t ∧ zfJ o f t < 65536 := by
 have := zcR ((65535 - o) + (65535 - f) + t)
 unfold zfJ; omega
theorem zes (l : List UInt8) (s : Int) : 0 ≤ zfX l s ∧ zfX l s < 65536 := zcR _
theorem zf7 (l : List UInt8) : 0 ≤ zft l ∧ zft l < 65536 := by have := zes l 0; unfold zft; omega

theorem ztw {o : Int} {f t : List UInt8} {i : Nat} (h1 : i + 1 < f.length) (h2 : i + 1 < t.length) : zhD o (f.drop i) (t.drop i) = zhD (zfJ o (zan f i) (zan t i)) (f.drop (i + 2)) (t.drop (i + 2)) := by
 rw [List.drop_eq_getElem_cons (show i < f.length by omega), List.drop_eq_getElem_cons h1, List.drop_eq_getElem_cons (show i < t.length by omega), List.drop_eq_getElem_cons h2]
 simp [zhD, zan, byt, List.getD, h1, h2, show i < f.length by omega, show i < t.length by omega]
theorem zkJ : ∀ (f t : List UInt8) (o : Int), 0 ≤ o ∧ o < 65536 → 0 ≤ zhD o f t ∧ zhD o f t < 65536
 | a :: b :: r, c :: d :: s, o, _ => by simp only [zhD]; exact zkJ r s _ (zcZ _ _ _)
 | [], _, o, h => by simpa [zhD] using h
 | [_], _, o, h => by simpa [zhD] using h
 | _ :: _ :: _, [], o, h => by simpa [zhD] using h
 | _ :: _ :: _, [_], o, h => by simpa [zhD] using h
theorem zbI {o : Int} (f t : List UInt8) (h : 0 ≤ o ∧ o < 65536) : 0 ≤ zaR o f t ∧ zaR o f t < 65536 := by
 unfold zaR
 split
 · exact zkJ f t o h
 · exact h

theorem zzz {a b : Int} (ha : 0 ≤ a ∧ a < 256) (hb : 0 ≤ b ∧ b < 256) : zaU .u16 (· ||| ·) (IntKind.u16.wrap (IntKind.u16.wrap a * 256)) (IntKind.u16.wrap b) = a * 256 + b := by
 rw [zb7 (n := a) (by omega), zb7 (by omega), zb7 (by omega)]
 obtain ⟨x, rfl⟩ := Int.eq_ofNat_of_zero_le ha.1
 obtain ⟨y, rfl⟩ := Int.eq_ofNat_of_zero_le hb.1
 have e1 : ((x : Int) * 256) = ((x * 256 : Nat) : Int) := by omega
 rw [e1]
 show IntKind.u16.wrap ((BitVec.ofInt 16 ((x * 256 : Nat) : Int) ||| BitVec.ofInt 16 (y : Int)).toNat : Int) = _
 rw [BitVec.toNat_or, zdf 16 _ (by omega), zdf 16 _ (by omega)]
 have e2 : x * 256 ||| y = x * 256 + y := by
  have := Nat.two_pow_add_eq_or_of_lt (i := 8) (b := y) (by omega) x
  rw [show x * 256 = 2 ^ 8 * x by omega]
  exact this.symm
 rw [e2, zb7 (by omega)]
 omega


theorem zaV : ∀ (a b : List UInt8), a.length % 2 = 0 → zbi (a ++ b) = zbi a + zbi b
 | [], b, _ => by simp [zbi]
 | [_], b, h => by simp at h
 | x :: y :: r, b, h => by
  have := zaV r b (by simp at h; omega)
  simp [zbi, this]; omega

theorem zl6 {x y : Int} (hx : 0 ≤ x) (hy : 0 ≤ y) : zcE (zcE x + y) = zcE (x + y) := by
 unfold zcE
 by_cases h0 : x = 0
 · subst h0; simp
 · rw [if_neg h0]
   have h1 : (x - 1) % 65535 + 1 + y ≠ 0 := by omega
   have h2 : x + y ≠ 0 := by omega
   rw [if_neg h1, if_neg h2]; omega

theorem znl {a b : List UInt8} {s : Int} (ha : a.length % 2 = 0) (hs : 0 ≤ s) : zfX (a ++ b) s = zfX b (zfX a s) := by
 have h1 := za1 a
 have h2 := za1 b
 unfold zfX
 rw [zaV a b ha, zl6 (by omega) h2.1]
 congr 1; omega

theorem zam {h : zaa} {k n r : Nat} {e : Bool} {vs : List AV} {md : Md} {par : Option Nat} {l : List UInt8} (hk : h[k]? = some (.cells vs 1 md par)) (hv : vs = bys l) (hn : n = l.length) :
 bOk h (.sl (some (k, 0)) n r e) = true ∧ bOf h (.sl (some (k, 0)) n r e) = l := by
 subst hv hn
 unfold bOk zd6 bOf zdA
 simp only [hk]
 simp [List.take_of_length_le]

theorem zu9 {h : zaa} {k o n r : Nat} {e : Bool} {vs : List AV} {md : Md} {par : Option Nat} {l : List UInt8} (hk : h[k]? = some (.cells vs 1 md par)) (hv : vs = bys l) (hn : o + n ≤ l.length) :
 bOk h (.sl (some (k, o)) n r e) = true ∧ bOf h (.sl (some (k, o)) n r e) = (l.drop o).take n := by
 subst hv
 unfold bOk zd6 bOf zdA
 simp only [hk]
 simp
 omega

theorem zw2 {h : zaa} {k : Nat} {l : List UInt8} {md : Md} {par : Option Nat} (hk : h[k]? = some (.cells (bys l) 1 md par)) : bOk h (slB k l) = true ∧ bOf h (slB k l) = l := by
 unfold bOk zd6 bOf zdA
 simp only [slB, hk]
 simp [List.take_of_length_le]

theorem zzO (n : Nat) : ((n : Int)).tmod 2 = ((n % 2 : Nat) : Int) := rfl


theorem zsX {l : List UInt8} {k i : Nat} {v : UInt8} (hk : k < l.length) : byt (l.set k v) i = if i = k then (v.toNat : Int) else byt l i := by
 simp only [byt, List.getD, List.getElem?_set]
 by_cases h : i = k
 · subst h; simp [hk]
 · have h' : ¬ k = i := fun e => h e.symm
   simp [h, h']

theorem zgX {n : Int} (h : 0 ≤ n) : zcE n % 65535 = n % 65535 := by
 unfold zcE
 split
 · omega
 · omega



theorem ziq : ∀ (f t : List UInt8) (o : Int), f.length = t.length → f.length % 2 = 0 → 0 ≤ o ∧ o < 65536 → (zhD o f t - (o + zbi f - zbi t)) % 65535 = 0
 | [], [], o, _, _, _ => by simp [zhD, zbi]
 | [_], _, o, _, h, _ => by simp at h
 | [], _ :: _, o, h, _, _ => by simp at h
 | _ :: _ :: _, [], o, h, _, _ => by simp at h
 | _ :: _ :: _, [_], o, h, _, _ => by simp at h
 | a :: b :: r, c :: d :: s, o, h, h2, ho => by
  have ih := ziq r s (zfJ o ((a.toNat : Int) * 256 + b.toNat) ((c.toNat : Int) * 256 + d.toNat)) (by simpa using h) (by simp at h2; omega) (zcZ _ _ _)
  have ha := a.toNat_lt
  have hb := b.toNat_lt
  have hc := c.toNat_lt
  have hd := d.toNat_lt
  have hm := zgX (n := (65535 - o) + (65535 - ((a.toNat : Int) * 256 + b.toNat)) + ((c.toNat : Int) * 256 + d.toNat)) (by omega)
  simp only [zhD, zbi]
  unfold zfJ at ih ⊢
  omega

end Go.Abs

end

section
/- A law's call: arguments by type. -/
set_option autoImplicit false
set_option linter.unusedVariables false
namespace Go.Abs
open Go.ChangeShapes Go.RowKit Go.WideShapes
variable {H : Type} {enc : TypeId × Value → H} {P : Program}

theorem zxX {z : Int} (h : (Lit.int .u8 z).wf = true) : 0 ≤ z ∧ z < 256 := by
 simp [Lit.wf, IntKind.min, IntKind.max, IntKind.signed, IntKind.bits] at h; omega
theorem zqO {z : Int} (h : (Lit.int .i64 z).wf = true) : -9223372036854775808 ≤ z ∧ z < 9223372036854775808 := by
 simp [Lit.wf, IntKind.min, IntKind.max, IntKind.signed, IntKind.bits] at h; omega

theorem zkH : ∀ {rows : List (List AV)}, (∀ r ∈ rows, FitsK [.int .u8] r) → ∃ l : List UInt8, rows.flatten = bys l ∧ rows.length = l.length
 | [], _ => ⟨[], rfl, rfl⟩
 | r :: rows, h => by
  obtain ⟨l, h1, h2⟩ := zkH (rows := rows) fun q hq => h q (List.mem_cons_of_mem _ hq)
  have hr := h r (by simp)
  cases hr with
  | int _ z hw _ m t =>
  cases t
  have := zxX hw
  refine ⟨u8i z :: l, ?_, by simp [h2]⟩
  rw [List.flatten_cons, h1, ziu, zaG]
  simp only [List.cons_append, List.nil_append]
  congr 2; omega

variable {W : World} {σ : Sig} {h : zaa} {avs : List AV} {vs : List Value}

theorem Args.aInt (A : Args W σ h avs vs) {t : TypeId} {k : IntKind} {v : Value} {d : DataW H} {ps : List MemPlace} (hk : ziK P 10 t = some [.int k]) (hu : P.underlying t = some (.int k))
 (hval : Value.okWide P W .any 0 t v) (hd : DataW.Trod enc P W 0 (fun _ => true) true t v d ps) : ∃ n, (Lit.int k n).wf = true ∧ Args W σ h (avs ++ [.int k n]) (vs ++ [v]) := by
 obtain ⟨l, hl, A'⟩ := A.plain hk hval hd
 cases hl with
 | int _ n hw _ m t =>
 cases t
 rw [hu] at A'
 exact ⟨n, hw, A'⟩

theorem Args.aBool (A : Args W σ h avs vs) {t : TypeId} {v : Value} {d : DataW H} {ps : List MemPlace} (hk : ziK P 10 t = some [.bool]) (hu : P.underlying t = some .bool)
 (hval : Value.okWide P W .any 0 t v) (hd : DataW.Trod enc P W 0 (fun _ => true) true t v d ps) : ∃ b, Args W σ h (avs ++ [.bool b]) (vs ++ [v]) := by
 obtain ⟨l, hl, A'⟩ := A.plain hk hval hd
 cases hl with
 | bool n _ m t =>
 cases t
 rw [hu] at A'
 exact ⟨n, A'⟩

theorem Args.aBytes (A : Args W σ h avs vs) {t e : TypeId} {v : Value} {d : DataW H} {ps : List MemPlace} (ht : P.underlying t = some (.slice e)) (hk : ziK P 10 e = some [.int .u8])
 (hval : Value.okWide P W .any 0 t v) (hd : DataW.Trod enc P W 0 (fun _ => true) true t v d ps) : ∃ σ' l, l.length ≤ maxLen ∧ Args W σ' (h ++ [zaC l]) (avs ++ [slB h.length l]) (vs ++ [v]) := by
 obtain ⟨σ', rows, h1, h2, A'⟩ := A.row ht hk (by simp) hval hd
 obtain ⟨l, h3, h4⟩ := zkH h1
 rw [h3, h4] at A'
 rw [h4] at h2
 exact ⟨σ', l, h2, A'⟩

theorem zrO {f : FuncId} {args : Array Value} (A : Args W σ h avs args.toList) {h' : zaa} (hr : Runs P f avs h (.bool true) h') : Calls P f args W fun e W' => e = .returned (.bool true) ∧ Below W.heap.size W W' := by
 obtain ⟨E, hE, hx⟩ := hr
 exact zo5 hE hx A.rel A.vrs


inductive Says (e : zdD) (args : List AV) (h : zaa) (v : AV) (new : zaa) : Prop
 | mk (H : e args h = some (true, v, h ++ new)) : Says e args h v new
noncomputable def zgo (e : zdD) (l : List (Nat × AV × zaa)) : zdD := fun args h => match zrr l h.length with
 | some (v, new) => some (zaE (Says e args h v new), v, h ++ new)
 | none => none
theorem zgN {f : FuncId} {e : zdD} (h : SoundE P f (zbj e)) (l : List (Nat × AV × zaa)) : SoundE P f (zbj (zgo e l)) := by
 refine zga h fun args hp v h' hg => ?_
 unfold zgo at hg
 split at hg
 · simp only [Option.some.injEq, Prod.mk.injEq] at hg
   obtain ⟨hc, rfl, rfl⟩ := hg
   rw [zab] at hc
   obtain ⟨he⟩ := hc
   change zvn e args hp (fun v h => some (v, h)) = _
   unfold zvn; rw [he]; rfl
 · simp at hg

inductive SaysH (e : zdD) (args : List AV) (h : zaa) (v : AV) (h' : zaa) : Prop
 | mk (H : e args h = some (true, v, h')) : SaysH e args h v h'
def zBn : List (Nat × ABlk) → zaa → zaa
 | [], h => h
 | (i, b) :: l, h => zBn l (h.set i b)
def zAu : List (Nat × AV × List (Nat × ABlk) × zaa) → Nat → Option (AV × List (Nat × ABlk) × zaa)
 | [], _ => none
 | (k, x) :: l, n => bif k.beq n then some x else zAu l n
noncomputable def zyr (e : zdD) (l : List (Nat × AV × List (Nat × ABlk) × zaa)) : zdD := fun args h => match zAu l h.length with
 | some (v, ed, new) => some (zaE (SaysH e args h v (zBn ed h ++ new)), v, zBn ed h ++ new)
 | none => none
theorem zBv {f : FuncId} {e : zdD} (h : SoundE P f (zbj e)) (l : List (Nat × AV × List (Nat × ABlk) × zaa)) : SoundE P f (zbj (zyr e l)) := by
 refine zga h fun args hp v h' hg => ?_
 unfold zyr at hg
 split at hg
 · simp only [Option.some.injEq, Prod.mk.injEq] at hg
   obtain ⟨hc, rfl, rfl⟩ := hg
   rw [zab] at hc
   obtain ⟨he⟩ := hc
   change zvn e args hp (fun v h => some (v, h)) = _
   unfold zvn; rw [he]; rfl
 · simp at hg

abbrev b8 (n : Int) : AV := .int .u8 n

def idxOf : List AV → Option Nat
 | .sl (some (i, _)) _ _ _ :: _ => some i
 | _ :: .sl (some (i, _)) _ _ _ :: _ => some i
 | _ => none
noncomputable def zv8 (R : List AV → zaa → AV → zaa → Prop) (l : List (Nat × AV × zaa)) : zdD := fun args h => match zrr l h.length with
 | some (v, new) => some (zaE (R args h v new), v, h ++ new)
 | none => none
theorem zhP {f : FuncId} {R : List AV → zaa → AV → zaa → Prop}
 (hR : ∀ args h v new, R args h v new → ∃ args1 h1, Canons h 0 args args1 h1 ∧ ∃ v1 h1', Runs P f args1 h1 v1 h1' ∧ ∃ ks, Den h1' h1.length h.length ks v1 v new ∧ zkX ks) (l : List (Nat × AV × zaa)) : SoundE P f (zbj (zv8 R l)) :=
 zb0 fun args h v h' hg => by
  unfold zv8 at hg
  split at hg
  · simp only [Option.some.injEq, Prod.mk.injEq] at hg
    obtain ⟨hc, rfl, rfl⟩ := hg
    rw [zab] at hc
    obtain ⟨args1, h1, c, v1, h1', hr, ks, hd, hk⟩ := hR _ _ _ _ hc
    exact ⟨args1, h1, c, v1, h1', hr, ks, _, rfl, hd, hk⟩
  · simp at hg

end Go.Abs

end
