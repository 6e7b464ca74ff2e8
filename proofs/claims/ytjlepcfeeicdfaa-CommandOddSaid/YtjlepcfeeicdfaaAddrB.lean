/- Texts that stand together: PutKit, AddrKit, ABytes, RBytes, RFrom, AFrom, RValid, Round, KeyDip. -/
import Derived.Test.YtjlepcfeeicdfaaBase
import Derived.Test.YtjlepcfeeicdfaaProg
section
/- Numbers put into bytes. -/
set_option autoImplicit false
set_option linter.unusedVariables false
set_option linter.unusedSimpArgs false
namespace Go.Abs
variable {P : Program}

def bigR (v : Int) : Nat → List UInt8
  | 0 => []
  | n + 1 => u8i (v.fdiv (256 ^ n)) :: bigR v n
@[simp] theorem bigR_length (v : Int) : ∀ n, (bigR v n).length = n
  | 0 => rfl
  | n + 1 => by simp [bigR, bigR_length v n]

theorem bigR_snoc (v : Int) : ∀ n, bigR v (n + 1) = bigR (v.fdiv 256) n ++ [u8i v]
  | 0 => by simp [bigR]
  | n + 1 => by
    rw [bigR, bigR_snoc v n, bigR]
    have hp : (0 : Int) < 256 ^ n := Int.pow_pos (by omega)
    rw [List.cons_append]
    congr 2
    rw [Int.fdiv_eq_ediv_of_nonneg _ (by rw [Int.pow_succ]; omega), Int.fdiv_eq_ediv_of_nonneg _ (by omega), Int.fdiv_eq_ediv_of_nonneg _ (by omega), Int.pow_succ, Int.mul_comm, Int.ediv_ediv, if_neg (by omega), Int.sub_zero]

def setsDown : List UInt8 → Nat → Nat → Int → List UInt8
  | l, _, 0, _ => l
  | l, p, n + 1, v => setsDown (l.set (p + n) (u8i v)) p n (v.fdiv 256)
theorem setsDown_eq : ∀ (n : Nat) (l : List UInt8) (p : Nat) (v : Int), p + n ≤ l.length → setsDown l p n v = l.take p ++ bigR v n ++ l.drop (p + n)
  | 0, l, p, v, h => by simp [setsDown, bigR]
  | n + 1, l, p, v, h => by
    rw [setsDown, setsDown_eq n _ p _ (by simp; omega), bigR_snoc]
    have e1 : (l.set (p + n) (u8i v)).take p = l.take p := by rw [List.take_set_of_le (by omega)]
    have e2 : (l.set (p + n) (u8i v)).drop (p + n) = u8i v :: l.drop (p + (n + 1)) := by
      rw [List.drop_set, if_neg (by omega), Nat.sub_self, List.drop_eq_getElem_cons (by omega)]
      rfl
    rw [e1, e2]
    simp

def putR (l : List UInt8) (p : Int) (sz : Nat) (v : Int) : List UInt8 := if 0 ≤ p ∧ p + sz ≤ (l.length : Int) then l.take p.toNat ++ bigR v sz ++ l.drop (p.toNat + sz) else l
@[simp] theorem putR_length (l : List UInt8) (p : Int) (sz : Nat) (v : Int) : (putR l p sz v).length = l.length := by
  unfold putR
  split
  · simp; omega
  · rfl

@[simp] theorem intV_some (k : IntKind) (n : Int) : intV (some (.int k n)) = n := rfl
@[simp] theorem boolV_some (b : Bool) : boolV (some (.bool b)) = b := rfl
@[simp] theorem isIntV_some (k : IntKind) (n : Int) : isIntV k (some (.int k n)) = true := by simp [isIntV]
@[simp] theorem byteD_u8 (k : IntKind) (x : UInt8) : byteD (.int k ((x.toNat : Nat) : Int)) = x := by simp [byteD]
theorem putA (q i : Nat) (j : Int) (hj : j = i) (hq : q ≤ 1000000000000) (hi : i ≤ 8) : IntKind.i64.wrap ((q : Int) + j) = ((q + i : Nat) : Int) := by
  subst hj
  rw [wrapI64 (by omega)]; omega
theorem putB (q i : Nat) : 0 + ((q + i : Nat) : Int).toNat * 1 = q + i := by omega

theorem posOf1 {i k j : Nat} (h : posOf [i] k = some j) : k = i ∧ j = 0 := by
  simp only [posOf] at h
  split at h
  · rename_i e; simp at h; exact ⟨e.symm, h.symm⟩
  · simp at h

theorem frame_one {f : FuncId} {args : Nat → List AV} {h : AHeap} {i : Nat} {vs vs' : List AV} {e : Nat} {par : Option Nat} {v : AV} (hb : h[i]? = some (.cells vs e .own par)) (hpar : par ≠ some i)
    (ha : ∀ i ρ, ρ i = some 0 → ARs ρ (args i) (args 0)) (hr : Runs P f (args 0) [.cells vs e .own none] v [.cells vs' e .own none]) (hf : AV.frees vs' = true) (hv : v.free = true) (hfv : AV.frees vs = true := by first | rfl | simp) :
    ∃ q, Frames P f (args i) (killp h q) v ((killp h par).set i (.cells vs' e .own none)) := by
  have hi := (List.getElem?_eq_some_iff.1 hb).1
  have hb2 : (killp h par)[i]? = some (.cells vs e .own par) := by rw [killp_get_ne hpar]; exact hb
  refine ⟨par, [i], [], args 0, [.cells vs e .own none], v, [.cells vs' e .own none], [.cells vs' e .own none], [], by simp, by simp, by simp, ha _ _ (by simp [posOf]), ?_, ?_, hr, ?_, .nil, .free _ hv, by simp [setAll]⟩
  · exact .cons _ _ _ _ _ hb2 (.cells _ _ _ _ _ _ (.free _ hfv) fun p j hp hq => by
      obtain ⟨rfl, rfl⟩ := posOf1 hq
      exact absurd hp hpar) .nil
  · intro k hk b hb'
    simp only [List.mem_singleton] at hk
    subst hk
    rw [hb2] at hb'; cases hb'
    refine ⟨rfl, fun q c hq hc => ?_⟩
    simp only [ABlk.par] at hq
    subst hq
    rw [killp, List.getElem?_set] at hc
    split at hc
    · split at hc
      · cases hc; rfl
      · simp at hc
    · rename_i hne; exact absurd rfl hne
  · exact .cons _ _ _ _ _ rfl (.row hf (by simp)) .nil

end Go.Abs

end

section
/- Addresses as values; bytes at places. -/
set_option autoImplicit false
set_option linter.unusedVariables false
set_option linter.unusedSimpArgs false
namespace Go.Abs
variable {P : Program}

def adrV (v : Bool) (x0 x1 x2 x3 x4 x5 x6 x7 x8 x9 x10 x11 x12 x13 x14 x15 : Int) : List AV :=
  [.bool v, .int .u8 x0, .int .u8 x1, .int .u8 x2, .int .u8 x3, .int .u8 x4, .int .u8 x5, .int .u8 x6, .int .u8 x7, .int .u8 x8, .int .u8 x9, .int .u8 x10, .int .u8 x11, .int .u8 x12, .int .u8 x13, .int .u8 x14, .int .u8 x15]
def adr16 (l : List UInt8) (p : Nat) : List AV := adrV true (byt l p) (byt l (p + 1)) (byt l (p + 2)) (byt l (p + 3)) (byt l (p + 4)) (byt l (p + 5)) (byt l (p + 6)) (byt l (p + 7)) (byt l (p + 8)) (byt l (p + 9)) (byt l (p + 10)) (byt l (p + 11)) (byt l (p + 12)) (byt l (p + 13)) (byt l (p + 14)) (byt l (p + 15))
def adr4 (l : List UInt8) (p : Nat) : List AV := adrV false (byt l p) (byt l (p + 1)) (byt l (p + 2)) (byt l (p + 3)) 0 0 0 0 0 0 0 0 0 0 0 0

mutual
@[simp] theorem AV.beq_self : ∀ a : AV, a.beq a = true
  | .any => rfl
  | .bool b => by simp [AV.beq]
  | .int k n => by simp [AV.beq]
  | .str s => by simp [AV.beq]
  | .ptr a => by simp [AV.beq]
  | .sl a l c e => by simp [AV.beq]
  | .map r => by simp [AV.beq]
  | .fn f c => by simp [AV.beq, AV.beqs_self c]
  | .nilFn => rfl
  | .agg l => by simp [AV.beq, AV.beqs_self l]
  | .tup l => by simp [AV.beq, AV.beqs_self l]
@[simp] theorem AV.beqs_self : ∀ l : List AV, AV.beqs l l = true
  | [] => rfl
  | a :: l => by simp [AV.beqs, AV.beq_self a, AV.beqs_self l]
end

theorem four_of {l : List UInt8} (h : l.length = 4) : ∃ a b c d, l = [a, b, c, d] := by
  match l, h with
  | [a, b, c, d], _ => exact ⟨a, b, c, d, rfl⟩
theorem sixteen_of {l : List UInt8} (h : l.length = 16) : ∃ a b c d e f g i j k m n o p q r, l = [a, b, c, d, e, f, g, i, j, k, m, n, o, p, q, r] := by
  match l, h with
  | [a, b, c, d, e, f, g, i, j, k, m, n, o, p, q, r], _ => exact ⟨a, b, c, d, e, f, g, i, j, k, m, n, o, p, q, r, rfl⟩

theorem byt_part {l : List UInt8} {p n i : Nat} (h : i < n) : byt ((l.drop p).take n) i = byt l (p + i) := by
  simp [byt, List.getD, List.getElem?_take, h]

def eFrom (ok bad : Int) : GEnt := fun args h => match args with
  | [b] => match nOf b with
    | 16 => some (bOk h b, .tup [.agg (adr16 (bOf h b) 0), .int .i64 ok], h)
    | 4 => some (bOk h b, .tup [.agg (adr4 (bOf h b) 0), .int .i64 ok], h)
    | _ => none
  | _ => none

def db3 (n : Int) : Int := 1 + n % 200
def dport (n : Int) : Int := 8000 + n % 1000
def dAdr (v : Bool) (n : Int) : List AV := adrV v 172 16 0 (db3 n) 0 0 0 0 0 0 0 0 0 0 0 0
def eDip : GEnt := fun args h => match args with
  | [.int .i64 n, .bool v] => some (true, .agg (dAdr v n ++ [.int .u16 (dport n)]), h)
  | _ => none

def isZeroV : AV → Bool
  | .int _ n => decide (n = 0)
  | _ => false
@[simp] theorem isZeroV_int (k : IntKind) (n : Int) : isZeroV (.int k n) = decide (n = 0) := rfl

def adrWf : List AV → Bool
  | .bool _ :: xs => decide (xs.length = 16) && xs.all isByteR
  | _ => false
def adrBytes : List AV → List UInt8
  | .bool v :: xs => match v with
    | true => xs.map byteD
    | false => (xs.take 4).map byteD
  | _ => []
def adrValid : List AV → Bool
  | .bool v :: xs => match v with
    | true => true
    | false => (xs.drop 4).all isZeroV
  | _ => false

theorem isByteR_int {a : AV} (h : isByteR a = true) : ∃ x, a = .int .u8 x ∧ 0 ≤ x ∧ x < 256 := by
  unfold isByteR at h
  split at h
  · rename_i n; simp only [decide_eq_true_eq] at h; exact ⟨n, rfl, h⟩
  · simp at h

theorem adrWf_lit {cs : List AV} (h : adrWf cs = true) : ∃ v x0 x1 x2 x3 x4 x5 x6 x7 x8 x9 x10 x11 x12 x13 x14 x15, cs = adrV v x0 x1 x2 x3 x4 x5 x6 x7 x8 x9 x10 x11 x12 x13 x14 x15 ∧ (0 ≤ x0 ∧ x0 < 256) ∧ (0 ≤ x1 ∧ x1 < 256) ∧ (0 ≤ x2 ∧ x2 < 256) ∧ (0 ≤ x3 ∧ x3 < 256) ∧ (0 ≤ x4 ∧ x4 < 256) ∧ (0 ≤ x5 ∧ x5 < 256) ∧ (0 ≤ x6 ∧ x6 < 256) ∧ (0 ≤ x7 ∧ x7 < 256) ∧ (0 ≤ x8 ∧ x8 < 256) ∧ (0 ≤ x9 ∧ x9 < 256) ∧ (0 ≤ x10 ∧ x10 < 256) ∧ (0 ≤ x11 ∧ x11 < 256) ∧ (0 ≤ x12 ∧ x12 < 256) ∧ (0 ≤ x13 ∧ x13 < 256) ∧ (0 ≤ x14 ∧ x14 < 256) ∧ (0 ≤ x15 ∧ x15 < 256) := by
  unfold adrWf at h
  split at h
  · rename_i v l
    simp only [Bool.and_eq_true, decide_eq_true_eq] at h
    obtain ⟨hl, h⟩ := h
    match l, hl, h with
    | [a0, a1, a2, a3, a4, a5, a6, a7, a8, a9, a10, a11, a12, a13, a14, a15], _, h =>
      simp only [List.all_cons, List.all_nil, Bool.and_eq_true, and_true] at h
      obtain ⟨h0, h1, h2, h3, h4, h5, h6, h7, h8, h9, h10, h11, h12, h13, h14, h15⟩ := h
      obtain ⟨x0, rfl, b0⟩ := isByteR_int h0
      obtain ⟨x1, rfl, b1⟩ := isByteR_int h1
      obtain ⟨x2, rfl, b2⟩ := isByteR_int h2
      obtain ⟨x3, rfl, b3⟩ := isByteR_int h3
      obtain ⟨x4, rfl, b4⟩ := isByteR_int h4
      obtain ⟨x5, rfl, b5⟩ := isByteR_int h5
      obtain ⟨x6, rfl, b6⟩ := isByteR_int h6
      obtain ⟨x7, rfl, b7⟩ := isByteR_int h7
      obtain ⟨x8, rfl, b8⟩ := isByteR_int h8
      obtain ⟨x9, rfl, b9⟩ := isByteR_int h9
      obtain ⟨x10, rfl, b10⟩ := isByteR_int h10
      obtain ⟨x11, rfl, b11⟩ := isByteR_int h11
      obtain ⟨x12, rfl, b12⟩ := isByteR_int h12
      obtain ⟨x13, rfl, b13⟩ := isByteR_int h13
      obtain ⟨x14, rfl, b14⟩ := isByteR_int h14
      obtain ⟨x15, rfl, b15⟩ := isByteR_int h15
      exact ⟨v, x0, x1, x2, x3, x4, x5, x6, x7, x8, x9, x10, x11, x12, x13, x14, x15, rfl, b0, b1, b2, b3, b4, b5, b6, b7, b8, b9, b10, b11, b12, b13, b14, b15⟩
  · simp at h

def adrV6 : List AV → Bool
  | .bool v :: _ => v
  | _ => false
theorem adrWf_B {cs : List AV} (h : adrWf cs = true) : ∃ v X, cs = .bool v :: bys X ∧ X.length = 16 := by
  unfold adrWf at h
  split at h
  · rename_i v l
    simp only [Bool.and_eq_true, decide_eq_true_eq] at h
    exact ⟨v, l.map byteD, by rw [← bytes_of h.2], by simp [h.1]⟩
  · simp at h
def eBytes : GEnt := fun args h => match args with
  | [.agg cs] => some (adrWf cs, slB h.length (adrBytes cs), h ++ [ownB (adrBytes cs)])
  | _ => none
end Go.Abs

end

section
/- bazaar/addr.Bytes. -/
set_option autoImplicit false
set_option maxRecDepth 100000
set_option linter.unusedVariables false
set_option linter.unusedSimpArgs false
namespace Go.Proofs.Ytjlepcfeeicdfaa.L
open Go Go.Abs

noncomputable def hABytesT0 (x0 x1 x2 x3 x4 x5 x6 x7 x8 x9 x10 x11 x12 x13 x14 x15 : Int) : AHeap := [ABlk.cells [AV.bool true, AV.int IntKind.u8 x0, AV.int IntKind.u8 x1, AV.int IntKind.u8 x2, AV.int IntKind.u8 x3, AV.int IntKind.u8 x4, AV.int IntKind.u8 x5, AV.int IntKind.u8 x6, AV.int IntKind.u8 x7, AV.int IntKind.u8 x8, AV.int IntKind.u8 x9, AV.int IntKind.u8 x10, AV.int IntKind.u8 x11, AV.int IntKind.u8 x12, AV.int IntKind.u8 x13, AV.int IntKind.u8 x14, AV.int IntKind.u8 x15] 17 Md.own none, ABlk.cells [] 1 Md.ro none, ABlk.cells [AV.int IntKind.u8 x0, AV.int IntKind.u8 x1, AV.int IntKind.u8 x2, AV.int IntKind.u8 x3, AV.int IntKind.u8 x4, AV.int IntKind.u8 x5, AV.int IntKind.u8 x6, AV.int IntKind.u8 x7, AV.int IntKind.u8 x8, AV.int IntKind.u8 x9, AV.int IntKind.u8 x10, AV.int IntKind.u8 x11, AV.int IntKind.u8 x12, AV.int IntKind.u8 x13, AV.int IntKind.u8 x14, AV.int IntKind.u8 x15] 1 Md.own (some 1)]
theorem nfABytesT {R : Type} (x0 x1 x2 x3 x4 x5 x6 x7 x8 x9 x10 x11 x12 x13 x14 x15 : Int) (K : AV → AHeap → Option R) :
 qrun Try.prog [] 100 6 [] [] 39 [.agg (adrV true x0 x1 x2 x3 x4 x5 x6 x7 x8 x9 x10 x11 x12 x13 x14 x15)] [] K =
 K (AV.sl (some (2, 0)) 16 0 false) ((hABytesT0 x0 x1 x2 x3 x4 x5 x6 x7 x8 x9 x10 x11 x12 x13 x14 x15)) := by
  kernel_rfl

noncomputable def hABytesF0 (x0 x1 x2 x3 x4 x5 x6 x7 x8 x9 x10 x11 x12 x13 x14 x15 : Int) : AHeap := [ABlk.cells [AV.bool false, AV.int IntKind.u8 x0, AV.int IntKind.u8 x1, AV.int IntKind.u8 x2, AV.int IntKind.u8 x3, AV.int IntKind.u8 x4, AV.int IntKind.u8 x5, AV.int IntKind.u8 x6, AV.int IntKind.u8 x7, AV.int IntKind.u8 x8, AV.int IntKind.u8 x9, AV.int IntKind.u8 x10, AV.int IntKind.u8 x11, AV.int IntKind.u8 x12, AV.int IntKind.u8 x13, AV.int IntKind.u8 x14, AV.int IntKind.u8 x15] 17 Md.own none, ABlk.cells [] 1 Md.ro none, ABlk.cells [AV.int IntKind.u8 x0, AV.int IntKind.u8 x1, AV.int IntKind.u8 x2, AV.int IntKind.u8 x3] 1 Md.own (some 1)]
theorem nfABytesF {R : Type} (x0 x1 x2 x3 x4 x5 x6 x7 x8 x9 x10 x11 x12 x13 x14 x15 : Int) (K : AV → AHeap → Option R) :
 qrun Try.prog [] 100 6 [] [] 39 [.agg (adrV false x0 x1 x2 x3 x4 x5 x6 x7 x8 x9 x10 x11 x12 x13 x14 x15)] [] K =
 K (AV.sl (some (2, 0)) 4 0 false) ((hABytesF0 x0 x1 x2 x3 x4 x5 x6 x7 x8 x9 x10 x11 x12 x13 x14 x15)) := by
  kernel_rfl


theorem sABytes : SoundE Try.prog 39 (entF eBytes) := by
  refine canonR_sound fun args h v h' hg => ?_
  unfold eBytes at hg
  split at hg
  · rename_i cs
    simp only [Option.some.injEq, Prod.mk.injEq] at hg
    obtain ⟨hw, rfl, rfl⟩ := hg
    obtain ⟨v, x0, x1, x2, x3, x4, x5, x6, x7, x8, x9, x10, x11, x12, x13, x14, x15, rfl, b0, b1, b2, b3, b4, b5, b6, b7, b8, b9, b10, b11, b12, b13, b14, b15⟩ := adrWf_lit hw
    refine ⟨[.agg (adrV v x0 x1 x2 x3 x4 x5 x6 x7 x8 x9 x10 x11 x12 x13 x14 x15)], [], .cons _ _ _ _ _ _ _ (.flat _ _ rfl) (.nil _), ?_⟩
    cases v
    · refine ⟨_, _, Runs.ofT0 (find_nil _) (F := 100) (n := 6) (pr := []) (nfABytesF x0 x1 x2 x3 x4 x5 x6 x7 x8 x9 x10 x11 x12 x13 x14 x15 _), [some 2], _, rfl, denB (by simp) rfl (show [.int .u8 x0, .int .u8 x1, .int .u8 x2, .int .u8 x3] = bys [byteD (.int .u8 x0), byteD (.int .u8 x1), byteD (.int .u8 x2), byteD (.int .u8 x3)] from bytes_of (l := [.int .u8 x0, .int .u8 x1, .int .u8 x2, .int .u8 x3]) (by simp [isByteR]; omega)) rfl, ksOk1 _⟩
    · refine ⟨_, _, Runs.ofT0 (find_nil _) (F := 100) (n := 6) (pr := []) (nfABytesT x0 x1 x2 x3 x4 x5 x6 x7 x8 x9 x10 x11 x12 x13 x14 x15 _), [some 2], _, rfl, denB (by simp) rfl (show [.int .u8 x0, .int .u8 x1, .int .u8 x2, .int .u8 x3, .int .u8 x4, .int .u8 x5, .int .u8 x6, .int .u8 x7, .int .u8 x8, .int .u8 x9, .int .u8 x10, .int .u8 x11, .int .u8 x12, .int .u8 x13, .int .u8 x14, .int .u8 x15] = bys [byteD (.int .u8 x0), byteD (.int .u8 x1), byteD (.int .u8 x2), byteD (.int .u8 x3), byteD (.int .u8 x4), byteD (.int .u8 x5), byteD (.int .u8 x6), byteD (.int .u8 x7), byteD (.int .u8 x8), byteD (.int .u8 x9), byteD (.int .u8 x10), byteD (.int .u8 x11), byteD (.int .u8 x12), byteD (.int .u8 x13), byteD (.int .u8 x14), byteD (.int .u8 x15)] from bytes_of (l := [.int .u8 x0, .int .u8 x1, .int .u8 x2, .int .u8 x3, .int .u8 x4, .int .u8 x5, .int .u8 x6, .int .u8 x7, .int .u8 x8, .int .u8 x9, .int .u8 x10, .int .u8 x11, .int .u8 x12, .int .u8 x13, .int .u8 x14, .int .u8 x15]) (by simp [isByteR]; omega)) rfl, ksOk1 _⟩
  · simp at hg

end Go.Proofs.Ytjlepcfeeicdfaa.L

end

section
/- bazaar/bazaarref1.Bytes. -/
set_option autoImplicit false
set_option maxRecDepth 100000
set_option linter.unusedVariables false
set_option linter.unusedSimpArgs false
namespace Go.Proofs.Ytjlepcfeeicdfaa.L
open Go Go.Abs

end Go.Proofs.Ytjlepcfeeicdfaa.L

end

section
/- bazaar/bazaarref1.From. -/
set_option autoImplicit false
set_option maxRecDepth 100000
set_option linter.unusedVariables false
set_option linter.unusedSimpArgs false
namespace Go.Proofs.Ytjlepcfeeicdfaa.L
open Go Go.Abs

end Go.Proofs.Ytjlepcfeeicdfaa.L

end

section
/- bazaar/addr.From. -/
set_option autoImplicit false
set_option maxRecDepth 100000
set_option linter.unusedVariables false
set_option linter.unusedSimpArgs false
namespace Go.Proofs.Ytjlepcfeeicdfaa.L
open Go Go.Abs

theorem nfAFrom16 {R : Type} (a b c d e f g i j k m n o p q r : UInt8) (K : AV → Option R) : qrun Try.prog [] 100 4 [] [] 32 [.sl (some (0, 0)) 16 0 false] [.cells [.int .u8 ((a.toNat : Nat) : Int), .int .u8 ((b.toNat : Nat) : Int), .int .u8 ((c.toNat : Nat) : Int), .int .u8 ((d.toNat : Nat) : Int), .int .u8 ((e.toNat : Nat) : Int), .int .u8 ((f.toNat : Nat) : Int), .int .u8 ((g.toNat : Nat) : Int), .int .u8 ((i.toNat : Nat) : Int), .int .u8 ((j.toNat : Nat) : Int), .int .u8 ((k.toNat : Nat) : Int), .int .u8 ((m.toNat : Nat) : Int), .int .u8 ((n.toNat : Nat) : Int), .int .u8 ((o.toNat : Nat) : Int), .int .u8 ((p.toNat : Nat) : Int), .int .u8 ((q.toNat : Nat) : Int), .int .u8 ((r.toNat : Nat) : Int)] 1 .far none] (fun v _ => K v) = K (.tup [.agg (adr16 [a, b, c, d, e, f, g, i, j, k, m, n, o, p, q, r] 0), .int .i64 0]) := by kernel_rfl
theorem nfAFrom4 {R : Type} (a b c d : UInt8) (K : AV → Option R) : qrun Try.prog [] 100 4 [] [] 32 [.sl (some (0, 0)) 4 0 false] [.cells [.int .u8 ((a.toNat : Nat) : Int), .int .u8 ((b.toNat : Nat) : Int), .int .u8 ((c.toNat : Nat) : Int), .int .u8 ((d.toNat : Nat) : Int)] 1 .far none] (fun v _ => K v) = K (.tup [.agg (adr4 [a, b, c, d] 0), .int .i64 0]) := by kernel_rfl

theorem sAFrom : SoundE Try.prog 32 (entF (eFrom 0 2)) := by
  refine canonV_sound fun args h v h' hg => ?_
  unfold eFrom at hg
  split at hg
  · rename_i b
    split at hg
    · rename_i hn
      simp only [Option.some.injEq, Prod.mk.injEq] at hg
      obtain ⟨hb, rfl, rfl⟩ := hg
      refine ⟨rfl, rfl, [slB 0 (bOf h b)], [farB (bOf h b)], .cons _ _ _ _ _ _ _ (bOk_canon hb 0) (.nil _), ?_⟩
      have hl := bOk_len hb
      rw [hn] at hl
      generalize bOf h b = l at hl
      obtain ⟨a, b, c, d, e, f, g, i, j, k, m, n, o, p, q, r, rfl⟩ := sixteen_of hl
      exact Runs.valT0 (find_nil _) (F := 100) (n := 4) (pr := []) (nfAFrom16 a b c d e f g i j k m n o p q r _)
    · rename_i hn
      simp only [Option.some.injEq, Prod.mk.injEq] at hg
      obtain ⟨hb, rfl, rfl⟩ := hg
      refine ⟨rfl, rfl, [slB 0 (bOf h b)], [farB (bOf h b)], .cons _ _ _ _ _ _ _ (bOk_canon hb 0) (.nil _), ?_⟩
      have hl := bOk_len hb
      rw [hn] at hl
      generalize bOf h b = l at hl
      obtain ⟨a, b, c, d, rfl⟩ := four_of hl
      exact Runs.valT0 (find_nil _) (F := 100) (n := 4) (pr := []) (nfAFrom4 a b c d _)
    · simp at hg
  · simp at hg

end Go.Proofs.Ytjlepcfeeicdfaa.L

end

section
/- bazaar/bazaarref1.Valid. -/
set_option autoImplicit false
set_option maxRecDepth 100000
set_option linter.unusedVariables false
set_option linter.unusedSimpArgs false
namespace Go.Proofs.Ytjlepcfeeicdfaa.L
open Go Go.Abs

end Go.Proofs.Ytjlepcfeeicdfaa.L

end

section
/- bazaaralike's Round. -/
set_option autoImplicit false
set_option maxRecDepth 100000
set_option linter.unusedVariables false
namespace Go.Proofs.Ytjlepcfeeicdfaa.L
open Go Go.Abs

def eRound : GEnt := fun args h => match args with
  | [.int .i64 k, .int .i64 n] => some (decide (0 < n ∧ n < 4611686018427387904), .int .i64 (k % n), h)
  | _ => none

theorem nfRound {R : Type} (k n : Int) (K : AV → Option R) : abody Try.prog (deepC Try.prog [] 100 4) (mixLS [] (autoLS Try.prog (deepC Try.prog [] 100 4) 100 4 (bodyOf Try.prog 18))) 18 [.int .i64 k, .int .i64 n] [] (fun v _ => K v) =
 if n = 0 then none else if n = 0 then none else K (.int .i64 ((IntKind.i64.wrap (k.tmod n + n)).tmod n)) := by
  kernel_rfl

theorem round_eq {k n : Int} (h : 0 < n ∧ n < 4611686018427387904) : (IntKind.i64.wrap (k.tmod n + n)).tmod n = k % n := by
  have hd := Int.tmod_eq_emod (a := k) (b := n)
  have he := Int.emod_nonneg k (show n ≠ 0 by omega)
  have hl := Int.emod_lt_of_pos k h.1
  have hn : ((n.natAbs : Nat) : Int) = n := by omega
  split at hd
  · rw [hd, wrapI64 (by omega), Int.tmod_eq_emod_of_nonneg (by omega), Int.add_emod_right, Int.sub_emod]
    simp
  · rw [hd, hn, wrapI64 (by omega), Int.tmod_eq_emod_of_nonneg (by omega), Int.sub_add_cancel, Int.emod_emod]

theorem sRound : SoundE Try.prog 18 (entF eRound) := by
  refine canonV_sound fun args h v h' hg => ?_
  unfold eRound at hg
  split at hg
  · rename_i k n
    simp only [Option.some.injEq, Prod.mk.injEq, decide_eq_true_eq] at hg
    obtain ⟨hn, rfl, rfl⟩ := hg
    refine ⟨rfl, rfl, [.int .i64 k, .int .i64 n], [], .cons _ _ _ _ _ _ _ (.flat _ _ rfl) (.cons _ _ _ _ _ _ _ (.flat _ _ rfl) (.nil _)), ?_⟩
    refine Runs.val0 (find_nil _) (F := 100) (n := 4) ?_
    rw [nfRound, if_neg (by omega), if_neg (by omega), round_eq hn]
  · simp at hg

end Go.Proofs.Ytjlepcfeeicdfaa.L

end

section
/- A flow, a server of so many. -/
set_option autoImplicit false
set_option maxRecDepth 100000
set_option linter.unusedVariables false
set_option linter.unusedSimpArgs false
namespace Go.Proofs.Ytjlepcfeeicdfaa.L
open Go Go.Abs

noncomputable def tRnd : Tbl := [(18, entF eRound)]
theorem tRndOk : ∀ f E, tRnd.find f = some E → SoundE Try.prog f E := find_cons sRound (find_nil _)
theorem nfDip {R : Type} (n : Int) (v : Bool) (K : AV → Option R) :
 qrun Try.prog tRnd 100 6 [] [] 21 [.int .i64 n, .bool v] [] (fun v _ => K v) =
 K (AV.agg [AV.bool v, AV.int IntKind.u8 172, AV.int IntKind.u8 16, AV.int IntKind.u8 0, AV.int IntKind.u8 (IntKind.u8.wrap (IntKind.i64.wrap (1 + n % 200))), AV.int IntKind.u8 0, AV.int IntKind.u8 0, AV.int IntKind.u8 0, AV.int IntKind.u8 0, AV.int IntKind.u8 0, AV.int IntKind.u8 0, AV.int IntKind.u8 0, AV.int IntKind.u8 0, AV.int IntKind.u8 0, AV.int IntKind.u8 0, AV.int IntKind.u8 0, AV.int IntKind.u8 0, AV.int IntKind.u16 (IntKind.u16.wrap (IntKind.i64.wrap (8000 + n % 1000)))]) := by
  kernel_rfl


theorem sDip : SoundE Try.prog 21 (entF eDip) := by
  refine canonV_sound fun args h v h' hg => ?_
  unfold eDip at hg
  split at hg
  · rename_i n v
    simp only [Option.some.injEq, Prod.mk.injEq, true_and] at hg
    obtain ⟨rfl, rfl⟩ := hg
    refine ⟨rfl, rfl, [.int .i64 n, .bool v], [], .cons _ _ _ _ _ _ _ (.flat _ _ rfl) (.cons _ _ _ _ _ _ _ (.flat _ _ rfl) (.nil _)), ?_⟩
    have w1 : IntKind.u8.wrap (IntKind.i64.wrap (1 + n % 200)) = db3 n := by rw [wrapI64 (by omega), wrapU8 (by omega)]; rfl
    have w2 : IntKind.u16.wrap (IntKind.i64.wrap (8000 + n % 1000)) = dport n := by rw [wrapI64 (by omega), wrapU16 (by omega)]; rfl
    refine Runs.valT0 tRndOk (F := 100) (n := 6) (pr := []) ?_
    rw [nfDip, w1, w2]
    rfl
  · simp at hg

end Go.Proofs.Ytjlepcfeeicdfaa.L

namespace Go.Abs

end Go.Abs

end
