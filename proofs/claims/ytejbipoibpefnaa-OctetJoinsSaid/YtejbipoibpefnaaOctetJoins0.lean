/- OctetJoins' run. -/
import Derived.Test.YtejbipoibpefnaaOctetJoinsN
import Derived.Test.YtejbipoibpefnaaBig
set_option autoImplicit false
set_option maxRecDepth 100000
set_option linter.unusedVariables false
set_option linter.unusedSimpArgs false
namespace Go.Proofs.Ytejbipoibpefnaa.L
open Go Go.Abs

def catJ (l : List Int) : Nat → List UInt8
  | 0 => []
  | n + 1 => catJ l n ++ bigR (l.getD n 0) (2 ^ (n % 4))
def offJ : Nat → Nat
  | 0 => 0
  | n + 1 => offJ n + 2 ^ (n % 4)
theorem catJ_length (l : List Int) : ∀ n, (catJ l n).length = offJ n
  | 0 => rfl
  | n + 1 => by simp [catJ, offJ, catJ_length l n]
theorem pow4 (n : Nat) : 2 ^ (n % 4) ≤ 8 := by
  rcases (by omega : n % 4 = 0 ∨ n % 4 = 1 ∨ n % 4 = 2 ∨ n % 4 = 3) with h | h | h | h <;> rw [h] <;> decide
theorem offJ_le : ∀ n, offJ n ≤ 8 * n
  | 0 => by simp [offJ]
  | n + 1 => by have := offJ_le n; have := pow4 n; simp only [offJ]; omega
theorem catJ_pre (l : List Int) (i : Nat) : ∀ k, ∃ r, catJ l (i + k) = catJ l i ++ r
  | 0 => ⟨[], by simp⟩
  | k + 1 => by
    obtain ⟨r, hr⟩ := catJ_pre l i k
    exact ⟨r ++ bigR (l.getD (i + k) 0) (2 ^ ((i + k) % 4)), by rw [show i + (k + 1) = i + k + 1 by omega, catJ, hr, List.append_assoc]⟩
theorem beN_bigR : ∀ (n : Nat) {v : Int}, 0 ≤ v → beN (bigR v n) = v % 256 ^ n
  | 0, v, h => by simp [bigR, beN, Int.emod_one]
  | n + 1, v, h => by
    rw [bigR_snoc, beN_snoc, Int.fdiv_eq_ediv_of_nonneg _ (by omega), beN_bigR n (by omega), u8i_toNat]
    obtain ⟨x, rfl⟩ := Int.eq_ofNat_of_zero_le h
    have := @Nat.mod_mul 256 (256 ^ n) x
    have e : ((256 : Int) ^ n) = ((256 ^ n : Nat) : Int) := by simp
    have e2 : ((256 : Int) ^ (n + 1)) = ((256 * 256 ^ n : Nat) : Int) := by rw [← Nat.pow_succ']; simp
    rw [e, e2]
    show (((x : Int) / ((256 : Nat) : Int)) % ((256 ^ n : Nat) : Int)) * 256 + (x : Int) % ((256 : Nat) : Int) = (x : Int) % ((256 * 256 ^ n : Nat) : Int)
    rw [← Int.natCast_ediv, ← Int.natCast_emod, ← Int.natCast_emod, ← Int.natCast_emod, this]
    omega
theorem numJ {l : List Int} {i : Nat} (h : i < l.length) (hw : ∀ z ∈ l, 0 ≤ z ∧ z < 18446744073709551616) : numAt (catJ l l.length) (offJ i) (2 ^ (i % 4)) = l.getD i 0 % 256 ^ (2 ^ (i % 4)) ∧ offJ i + 2 ^ (i % 4) ≤ (catJ l l.length).length := by
  obtain ⟨r, hr⟩ := catJ_pre l (i + 1) (l.length - (i + 1))
  rw [show i + 1 + (l.length - (i + 1)) = l.length by omega] at hr
  have hl := catJ_length l i
  constructor
  · unfold numAt
    rw [hr, catJ, List.append_assoc, ← hl, List.drop_left, List.take_left' (by simp), beN_bigR]
    have : l.getD i 0 ∈ l := by simp [List.getD, List.getElem?_eq_getElem h]
    exact (hw _ this).1
  · rw [hr, List.length_append, catJ_length, offJ]; omega

theorem get_ints {k : IntKind} {l : List Int} {i : Nat} (h : i < l.length) : (l.map (AV.int k))[i]? = some (.int k (l.getD i 0)) := by
  simp [List.getElem?_eq_getElem h, List.getD]
theorem mem_getD {l : List Int} {i : Nat} (h : i < l.length) : l.getD i 0 ∈ l := by simp [List.getD, List.getElem?_eq_getElem h]
theorem ofNatJ (x : Nat) (h : x < 18446744073709551616) : (BitVec.ofInt 64 (x : Int)).toNat = x := by
  rw [ofIntNat 64 x (by omega)]
theorem and64 {z : Int} {k : Nat} (hk : k ≤ 63) (h : 0 ≤ z ∧ z < 18446744073709551616) : abits .u64 (· &&& ·) z (2 ^ k - 1) = z % 2 ^ k := by
  obtain ⟨x, rfl⟩ := Int.eq_ofNat_of_zero_le h.1
  have hp : 2 ^ k ≤ 2 ^ 63 := Nat.pow_le_pow_right (by omega) hk
  have h1 : 0 < 2 ^ k := Nat.two_pow_pos k
  have e : ((2 : Int) ^ k - 1) = ((2 ^ k - 1 : Nat) : Int) := by
    have : ((2 : Int) ^ k) = ((2 ^ k : Nat) : Int) := by simp
    rw [this]; omega
  rw [e]
  show IntKind.u64.wrap ((BitVec.ofInt 64 (x : Int) &&& BitVec.ofInt 64 ((2 ^ k - 1 : Nat) : Int)).toNat : Int) = _
  rw [BitVec.toNat_and, ofIntNat 64 x (by omega), ofIntNat 64 _ (by omega), Nat.and_two_pow_sub_one_eq_mod]
  have hm : x % 2 ^ k < 2 ^ k := Nat.mod_lt _ h1
  rw [wrapU64 (by omega)]
  simp
theorem xor64 (z : Int) : abits .u64 (· ^^^ ·) z z = 0 := by
  show IntKind.u64.wrap ((BitVec.ofInt 64 z ^^^ BitVec.ofInt 64 z).toNat : Int) = _
  rw [BitVec.xor_self]; rfl


theorem tmod4 (i : Nat) : ((i : Int)).tmod 4 = ((i % 4 : Nat) : Int) := rfl
theorem frees_ints {k : IntKind} : ∀ l : List Int, AV.frees (l.map (AV.int k)) = true
  | [] => rfl
  | _ :: l => by simp [AV.frees, AV.free, frees_ints l]
theorem gcJ1 {l : List Int} {C X : List UInt8} {i : Nat} {Y : List AV} {n : Nat} (hi : i < 1000) (hY : Y = bys X) (hX : n = X.length) : Gc 1 [AV.sl (some (0, 0)) l.length 0 false, AV.sl (some (2, 0)) n 0 false, AV.int IntKind.i64 (IntKind.i64.wrap ((i : Int) + 1))] [farU l, ownB C, .cells Y 1 .own none] (vJ1 l (slB 1 X) ((i + 1 : Nat) : Int)) [farU l, ownB X] := by
  subst hY hX
  rw [show IntKind.i64.wrap ((i : Int) + 1) = ((i + 1 : Nat) : Int) from by rw [wrapI64 (by omega)]; omega]
  exact Gc.by [0, 2] rfl (by decide) (.cons _ _ _ _ (.sl _ _ _ _ _ _ rfl) (.cons _ _ _ _ (.sl _ _ _ _ _ _ rfl) (.free _ rfl))) (.cons _ _ _ _ _ rfl (.row (frees_ints _) (by simp)) (.cons _ _ _ _ _ rfl (.row (by simp) (by simp)) .nil))
theorem wrapJ {z : Int} (k : IntKind) (hk : k.signed = false) : k.wrap z = z % 2 ^ k.bits := by simp [IntKind.wrap, hk]

theorem stepJ10 {l : List Int} (hn : l.length ≤ 50) (hw : ∀ z ∈ l, 0 ≤ z ∧ z < 18446744073709551616) {i : Nat} (hi : i < l.length) (hm : i % 4 = 0) :
    ∃ vs1 h1, qround Try.prog tJ 100 4 [(24, .bool true), (29, .bool true)] noT J1 mJ1 (vJ1 l (slB 1 (catJ l i)) i) [farU l, ownB (catJ l i)] = some (.norm, vs1, h1) ∧ Gc 1 vs1 h1 (vJ1 l (slB 1 (catJ l (i + 1))) ((i + 1 : Nat) : Int)) [farU l, ownB (catJ l (i + 1))] := by
  have hz := hw _ (mem_getD hi)
  have g := bOk_far (h := hJ100 l (catJ l i) i) (k := 1) (l := catJ l i) rfl
  have lc := catJ_length l i
  have lo := offJ_le i
  have e : catJ l (i + 1) = catJ l i ++ bigR (IntKind.u8.wrap (l.getD i 0)) 1 := by
    rw [catJ, hm]
    congr 1; exact (bigR_emod (l.getD i 0) 1 1 (by omega)).symm.trans (by simp [IntKind.wrap, IntKind.bits, IntKind.signed])
  have hr : 0 ≤ (IntKind.u8.wrap (l.getD i 0)) ∧ (IntKind.u8.wrap (l.getD i 0)) < 256 := by simp [IntKind.wrap, IntKind.bits, IntKind.signed]; omega
  have e0 : ((l.map (AV.int .u64))[0 + (i : Int).toNat * 1]?) = some (.int .u64 (l.getD i 0)) := by rw [show 0 + (i : Int).toNat * 1 = i by omega]; exact get_ints hi
  rw [nfJ10]
  refine ⟨?_, ?_, ?_, ?_⟩
  rotate_left 2
  · rw [e0]
    refine (if_pos (by simp; omega)).trans ?_
    refine (if_pos (show (((i : Int).tmod 4) == 0) = true by rw [tmod4, hm]; rfl)).trans ?_
    refine (if_pos (by omega)).trans ?_
    refine (if_pos rfl).trans ?_
    refine (if_pos (by rw [g.1, Bool.true_and]; exact decide_eq_true ⟨by show (catJ l i).length ≤ _; omega, hr⟩)).trans ?_
    rfl
  · unfold hJ101
    rw [g.2, e0]
    exact gcJ1 (by omega) (by rw [e]; rfl) (by rw [e]; rfl)

theorem stepJ11 {l : List Int} (hn : l.length ≤ 50) (hw : ∀ z ∈ l, 0 ≤ z ∧ z < 18446744073709551616) {i : Nat} (hi : i < l.length) (hm : i % 4 = 1) :
    ∃ vs1 h1, qround Try.prog tJ 100 4 [(24, .bool true), (29, .bool false), (38, .bool true)] noT J1 mJ1 (vJ1 l (slB 1 (catJ l i)) i) [farU l, ownB (catJ l i)] = some (.norm, vs1, h1) ∧ Gc 1 vs1 h1 (vJ1 l (slB 1 (catJ l (i + 1))) ((i + 1 : Nat) : Int)) [farU l, ownB (catJ l (i + 1))] := by
  have hz := hw _ (mem_getD hi)
  have g := bOk_far (h := hJ110 l (catJ l i) i) (k := 1) (l := catJ l i) rfl
  have lc := catJ_length l i
  have lo := offJ_le i
  have e : catJ l (i + 1) = catJ l i ++ bigR (IntKind.u16.wrap (l.getD i 0)) 2 := by
    rw [catJ, hm]
    congr 1; exact (bigR_emod (l.getD i 0) 2 2 (by omega)).symm.trans (by simp [IntKind.wrap, IntKind.bits, IntKind.signed])
  have hr : 0 ≤ (IntKind.u16.wrap (l.getD i 0)) ∧ (IntKind.u16.wrap (l.getD i 0)) < 65536 := by simp [IntKind.wrap, IntKind.bits, IntKind.signed]; omega
  have e0 : ((l.map (AV.int .u64))[0 + (i : Int).toNat * 1]?) = some (.int .u64 (l.getD i 0)) := by rw [show 0 + (i : Int).toNat * 1 = i by omega]; exact get_ints hi
  rw [nfJ11]
  refine ⟨?_, ?_, ?_, ?_⟩
  rotate_left 2
  · rw [e0]
    refine (if_pos (by simp; omega)).trans ?_
    refine (if_pos (show (((i : Int).tmod 4) == 0) = false by rw [tmod4, hm]; rfl)).trans ?_
    refine (if_pos (show (((i : Int).tmod 4) == 1) = true by rw [tmod4, hm]; rfl)).trans ?_
    refine (if_pos (by omega)).trans ?_
    refine (if_pos rfl).trans ?_
    refine (if_pos (by rw [g.1, Bool.true_and]; exact decide_eq_true ⟨by show (catJ l i).length ≤ _; omega, hr⟩)).trans ?_
    rfl
  · unfold hJ111
    rw [g.2, e0]
    exact gcJ1 (by omega) (by rw [e]; rfl) (by rw [e]; rfl)

theorem stepJ12 {l : List Int} (hn : l.length ≤ 50) (hw : ∀ z ∈ l, 0 ≤ z ∧ z < 18446744073709551616) {i : Nat} (hi : i < l.length) (hm : i % 4 = 2) :
    ∃ vs1 h1, qround Try.prog tJ 100 4 [(24, .bool true), (29, .bool false), (38, .bool false), (47, .bool true)] noT J1 mJ1 (vJ1 l (slB 1 (catJ l i)) i) [farU l, ownB (catJ l i)] = some (.norm, vs1, h1) ∧ Gc 1 vs1 h1 (vJ1 l (slB 1 (catJ l (i + 1))) ((i + 1 : Nat) : Int)) [farU l, ownB (catJ l (i + 1))] := by
  have hz := hw _ (mem_getD hi)
  have g := bOk_far (h := hJ120 l (catJ l i) i) (k := 1) (l := catJ l i) rfl
  have lc := catJ_length l i
  have lo := offJ_le i
  have e : catJ l (i + 1) = catJ l i ++ bigR (IntKind.u32.wrap (l.getD i 0)) 4 := by
    rw [catJ, hm]
    congr 1; exact (bigR_emod (l.getD i 0) 4 4 (by omega)).symm.trans (by simp [IntKind.wrap, IntKind.bits, IntKind.signed])
  have hr : 0 ≤ (IntKind.u32.wrap (l.getD i 0)) ∧ (IntKind.u32.wrap (l.getD i 0)) < 4294967296 := by simp [IntKind.wrap, IntKind.bits, IntKind.signed]; omega
  have e0 : ((l.map (AV.int .u64))[0 + (i : Int).toNat * 1]?) = some (.int .u64 (l.getD i 0)) := by rw [show 0 + (i : Int).toNat * 1 = i by omega]; exact get_ints hi
  rw [nfJ12]
  refine ⟨?_, ?_, ?_, ?_⟩
  rotate_left 2
  · rw [e0]
    refine (if_pos (by simp; omega)).trans ?_
    refine (if_pos (show (((i : Int).tmod 4) == 0) = false by rw [tmod4, hm]; rfl)).trans ?_
    refine (if_pos (show (((i : Int).tmod 4) == 1) = false by rw [tmod4, hm]; rfl)).trans ?_
    refine (if_pos (show (((i : Int).tmod 4) == 2) = true by rw [tmod4, hm]; rfl)).trans ?_
    refine (if_pos (by omega)).trans ?_
    refine (if_pos rfl).trans ?_
    refine (if_pos (by rw [g.1, Bool.true_and]; exact decide_eq_true ⟨by show (catJ l i).length ≤ _; omega, hr⟩)).trans ?_
    rfl
  · unfold hJ121
    rw [g.2, e0]
    exact gcJ1 (by omega) (by rw [e]; rfl) (by rw [e]; rfl)

theorem stepJ13 {l : List Int} (hn : l.length ≤ 50) (hw : ∀ z ∈ l, 0 ≤ z ∧ z < 18446744073709551616) {i : Nat} (hi : i < l.length) (hm : i % 4 = 3) :
    ∃ vs1 h1, qround Try.prog tJ 100 4 [(24, .bool true), (29, .bool false), (38, .bool false), (47, .bool false), (56, .bool true)] noT J1 mJ1 (vJ1 l (slB 1 (catJ l i)) i) [farU l, ownB (catJ l i)] = some (.norm, vs1, h1) ∧ Gc 1 vs1 h1 (vJ1 l (slB 1 (catJ l (i + 1))) ((i + 1 : Nat) : Int)) [farU l, ownB (catJ l (i + 1))] := by
  have hz := hw _ (mem_getD hi)
  have g := bOk_far (h := hJ130 l (catJ l i) i) (k := 1) (l := catJ l i) rfl
  have lc := catJ_length l i
  have lo := offJ_le i
  have e : catJ l (i + 1) = catJ l i ++ bigR (l.getD i 0) 8 := by
    rw [catJ, hm]
  have hr : 0 ≤ (l.getD i 0) ∧ (l.getD i 0) < 18446744073709551616 := by exact hz
  have e0 : ((l.map (AV.int .u64))[0 + (i : Int).toNat * 1]?) = some (.int .u64 (l.getD i 0)) := by rw [show 0 + (i : Int).toNat * 1 = i by omega]; exact get_ints hi
  rw [nfJ13]
  refine ⟨?_, ?_, ?_, ?_⟩
  rotate_left 2
  · rw [e0]
    refine (if_pos (by simp; omega)).trans ?_
    refine (if_pos (show (((i : Int).tmod 4) == 0) = false by rw [tmod4, hm]; rfl)).trans ?_
    refine (if_pos (show (((i : Int).tmod 4) == 1) = false by rw [tmod4, hm]; rfl)).trans ?_
    refine (if_pos (show (((i : Int).tmod 4) == 2) = false by rw [tmod4, hm]; rfl)).trans ?_
    refine (if_pos (show (((i : Int).tmod 4) == 3) = true by rw [tmod4, hm]; rfl)).trans ?_
    refine (if_pos (by omega)).trans ?_
    refine (if_pos rfl).trans ?_
    refine (if_pos (by rw [g.1, Bool.true_and]; exact decide_eq_true ⟨by show (catJ l i).length ≤ _; omega, hr⟩)).trans ?_
    rfl
  · unfold hJ131
    rw [g.2, e0]
    exact gcJ1 (by omega) (by rw [e]; rfl) (by rw [e]; rfl)

theorem stepJ20 {l : List Int} (hn : l.length ≤ 50) (hw : ∀ z ∈ l, 0 ≤ z ∧ z < 18446744073709551616) {i : Nat} (hi : i < l.length) (hm : i % 4 = 0) :
    qround Try.prog tJ 100 4 [(67, .bool true), (72, .bool true), (143, .bool false)] noT J2 mJ2 (vJ2 l (slB 1 (catJ l l.length)) (offJ i) i) [farU l, ownB (catJ l l.length)] = some (.norm, vJ2 l (slB 1 (catJ l l.length)) (offJ (i + 1)) ((i + 1 : Nat) : Int), [farU l, ownB (catJ l l.length)]) := by
  have hz := hw _ (mem_getD hi)
  have g := bOk_far (h := hJ200 l (catJ l l.length) (offJ i) i) (k := 1) (l := catJ l l.length) rfl
  have lc := catJ_length l l.length
  have lo := offJ_le l.length
  have lo2 := offJ_le i
  obtain ⟨nj, bj⟩ := numJ hi hw
  rw [hm] at nj bj
  have e0 : ((l.map (AV.int .u64))[0 + (i : Int).toNat * 1]?) = some (.int .u64 (l.getD i 0)) := by rw [show 0 + (i : Int).toNat * 1 = i by omega]; exact get_ints hi
  have nj2 : numAt (catJ l l.length) ((offJ i : Int)).toNat 1 = l.getD i 0 % 256 := nj
  have ho : 0 ≤ (offJ i : Int) ∧ (offJ i : Int) + 1 ≤ (((catJ l l.length).length : Nat) : Int) := ⟨by omega, by have : offJ i + 1 ≤ (catJ l l.length).length := bj; omega⟩
  rw [nfJ20, e0, g.1, g.2, if_pos ho, nj2]
  refine (if_pos (by simp; omega)).trans ?_
  refine (if_pos (show (((i : Int).tmod 4) == 0) = true by rw [tmod4, hm]; rfl)).trans ?_
  refine (if_pos (by rw [Bool.true_and]; exact decide_eq_true (show (((catJ l l.length).length : Nat) : Int) < _ by omega))).trans ?_
  refine (if_pos (by omega)).trans ?_
  refine (if_pos rfl).trans ?_
  refine (if_neg (by rw [decide_eq_true ho]; simp)).trans ?_
  refine (if_pos (by
    have a1 : intV (some (AV.int IntKind.u64 (l.getD i 0))) = l.getD i 0 := rfl
    rw [a1, show (255 : Int) = 2 ^ 8 - 1 from rfl, and64 (by omega) hz, wrapU64 (by omega), show (2 : Int) ^ 8 = 256 from rfl, xor64]; rfl)).trans ?_
  refine (if_neg (by rw [tmod4, hm]; decide)).trans ?_
  have e1 : IntKind.i64.wrap ((offJ i : Int) + IntKind.i64.wrap (1 * 2 ^ min (((i : Int).tmod 4).toNat) 64)) = ((offJ (i + 1) : Nat) : Int) := by
    rw [tmod4, hm]
    show IntKind.i64.wrap ((offJ i : Int) + 1) = _
    rw [wrapI64 (by omega), offJ, hm]; rfl
  have e2 : IntKind.i64.wrap ((i : Int) + 1) = ((i + 1 : Nat) : Int) := by rw [wrapI64 (by omega)]; omega
  rw [e1, e2]
  rfl

theorem stepJ21 {l : List Int} (hn : l.length ≤ 50) (hw : ∀ z ∈ l, 0 ≤ z ∧ z < 18446744073709551616) {i : Nat} (hi : i < l.length) (hm : i % 4 = 1) :
    qround Try.prog tJ 100 4 [(67, .bool true), (72, .bool false), (89, .bool true), (143, .bool false)] noT J2 mJ2 (vJ2 l (slB 1 (catJ l l.length)) (offJ i) i) [farU l, ownB (catJ l l.length)] = some (.norm, vJ2 l (slB 1 (catJ l l.length)) (offJ (i + 1)) ((i + 1 : Nat) : Int), [farU l, ownB (catJ l l.length)]) := by
  have hz := hw _ (mem_getD hi)
  have g := bOk_far (h := hJ210 l (catJ l l.length) (offJ i) i) (k := 1) (l := catJ l l.length) rfl
  have lc := catJ_length l l.length
  have lo := offJ_le l.length
  have lo2 := offJ_le i
  obtain ⟨nj, bj⟩ := numJ hi hw
  rw [hm] at nj bj
  have e0 : ((l.map (AV.int .u64))[0 + (i : Int).toNat * 1]?) = some (.int .u64 (l.getD i 0)) := by rw [show 0 + (i : Int).toNat * 1 = i by omega]; exact get_ints hi
  have nj2 : numAt (catJ l l.length) ((offJ i : Int)).toNat 2 = l.getD i 0 % 65536 := nj
  have ho : 0 ≤ (offJ i : Int) ∧ (offJ i : Int) + 2 ≤ (((catJ l l.length).length : Nat) : Int) := ⟨by omega, by have : offJ i + 2 ≤ (catJ l l.length).length := bj; omega⟩
  rw [nfJ21, e0, g.1, g.2, if_pos ho, nj2]
  refine (if_pos (by simp; omega)).trans ?_
  refine (if_pos (show (((i : Int).tmod 4) == 0) = false by rw [tmod4, hm]; rfl)).trans ?_
  refine (if_pos (show (((i : Int).tmod 4) == 1) = true by rw [tmod4, hm]; rfl)).trans ?_
  refine (if_pos (by rw [Bool.true_and]; exact decide_eq_true (show (((catJ l l.length).length : Nat) : Int) < _ by omega))).trans ?_
  refine (if_pos (by omega)).trans ?_
  refine (if_pos rfl).trans ?_
  refine (if_neg (by rw [decide_eq_true ho]; simp)).trans ?_
  refine (if_pos (by
    have a1 : intV (some (AV.int IntKind.u64 (l.getD i 0))) = l.getD i 0 := rfl
    rw [a1, show (65535 : Int) = 2 ^ 16 - 1 from rfl, and64 (by omega) hz, wrapU64 (by omega), show (2 : Int) ^ 16 = 65536 from rfl, xor64]; rfl)).trans ?_
  refine (if_neg (by rw [tmod4, hm]; decide)).trans ?_
  have e1 : IntKind.i64.wrap ((offJ i : Int) + IntKind.i64.wrap (1 * 2 ^ min (((i : Int).tmod 4).toNat) 64)) = ((offJ (i + 1) : Nat) : Int) := by
    rw [tmod4, hm]
    show IntKind.i64.wrap ((offJ i : Int) + 2) = _
    rw [wrapI64 (by omega), offJ, hm]; rfl
  have e2 : IntKind.i64.wrap ((i : Int) + 1) = ((i + 1 : Nat) : Int) := by rw [wrapI64 (by omega)]; omega
  rw [e1, e2]
  rfl

theorem stepJ22 {l : List Int} (hn : l.length ≤ 50) (hw : ∀ z ∈ l, 0 ≤ z ∧ z < 18446744073709551616) {i : Nat} (hi : i < l.length) (hm : i % 4 = 2) :
    qround Try.prog tJ 100 4 [(67, .bool true), (72, .bool false), (89, .bool false), (106, .bool true), (143, .bool false)] noT J2 mJ2 (vJ2 l (slB 1 (catJ l l.length)) (offJ i) i) [farU l, ownB (catJ l l.length)] = some (.norm, vJ2 l (slB 1 (catJ l l.length)) (offJ (i + 1)) ((i + 1 : Nat) : Int), [farU l, ownB (catJ l l.length)]) := by
  have hz := hw _ (mem_getD hi)
  have g := bOk_far (h := hJ220 l (catJ l l.length) (offJ i) i) (k := 1) (l := catJ l l.length) rfl
  have lc := catJ_length l l.length
  have lo := offJ_le l.length
  have lo2 := offJ_le i
  obtain ⟨nj, bj⟩ := numJ hi hw
  rw [hm] at nj bj
  have e0 : ((l.map (AV.int .u64))[0 + (i : Int).toNat * 1]?) = some (.int .u64 (l.getD i 0)) := by rw [show 0 + (i : Int).toNat * 1 = i by omega]; exact get_ints hi
  have nj2 : numAt (catJ l l.length) ((offJ i : Int)).toNat 4 = l.getD i 0 % 4294967296 := nj
  have ho : 0 ≤ (offJ i : Int) ∧ (offJ i : Int) + 4 ≤ (((catJ l l.length).length : Nat) : Int) := ⟨by omega, by have : offJ i + 4 ≤ (catJ l l.length).length := bj; omega⟩
  rw [nfJ22, e0, g.1, g.2, if_pos ho, nj2]
  refine (if_pos (by simp; omega)).trans ?_
  refine (if_pos (show (((i : Int).tmod 4) == 0) = false by rw [tmod4, hm]; rfl)).trans ?_
  refine (if_pos (show (((i : Int).tmod 4) == 1) = false by rw [tmod4, hm]; rfl)).trans ?_
  refine (if_pos (show (((i : Int).tmod 4) == 2) = true by rw [tmod4, hm]; rfl)).trans ?_
  refine (if_pos (by rw [Bool.true_and]; exact decide_eq_true (show (((catJ l l.length).length : Nat) : Int) < _ by omega))).trans ?_
  refine (if_pos (by omega)).trans ?_
  refine (if_pos rfl).trans ?_
  refine (if_neg (by rw [decide_eq_true ho]; simp)).trans ?_
  refine (if_pos (by
    have a1 : intV (some (AV.int IntKind.u64 (l.getD i 0))) = l.getD i 0 := rfl
    rw [a1, show (4294967295 : Int) = 2 ^ 32 - 1 from rfl, and64 (by omega) hz, wrapU64 (by omega), show (2 : Int) ^ 32 = 4294967296 from rfl, xor64]; rfl)).trans ?_
  refine (if_neg (by rw [tmod4, hm]; decide)).trans ?_
  have e1 : IntKind.i64.wrap ((offJ i : Int) + IntKind.i64.wrap (1 * 2 ^ min (((i : Int).tmod 4).toNat) 64)) = ((offJ (i + 1) : Nat) : Int) := by
    rw [tmod4, hm]
    show IntKind.i64.wrap ((offJ i : Int) + 4) = _
    rw [wrapI64 (by omega), offJ, hm]; rfl
  have e2 : IntKind.i64.wrap ((i : Int) + 1) = ((i + 1 : Nat) : Int) := by rw [wrapI64 (by omega)]; omega
  rw [e1, e2]
  rfl

theorem stepJ23 {l : List Int} (hn : l.length ≤ 50) (hw : ∀ z ∈ l, 0 ≤ z ∧ z < 18446744073709551616) {i : Nat} (hi : i < l.length) (hm : i % 4 = 3) :
    qround Try.prog tJ 100 4 [(67, .bool true), (72, .bool false), (89, .bool false), (106, .bool false), (123, .bool true), (143, .bool false)] noT J2 mJ2 (vJ2 l (slB 1 (catJ l l.length)) (offJ i) i) [farU l, ownB (catJ l l.length)] = some (.norm, vJ2 l (slB 1 (catJ l l.length)) (offJ (i + 1)) ((i + 1 : Nat) : Int), [farU l, ownB (catJ l l.length)]) := by
  have hz := hw _ (mem_getD hi)
  have g := bOk_far (h := hJ230 l (catJ l l.length) (offJ i) i) (k := 1) (l := catJ l l.length) rfl
  have lc := catJ_length l l.length
  have lo := offJ_le l.length
  have lo2 := offJ_le i
  obtain ⟨nj, bj⟩ := numJ hi hw
  rw [hm] at nj bj
  have e0 : ((l.map (AV.int .u64))[0 + (i : Int).toNat * 1]?) = some (.int .u64 (l.getD i 0)) := by rw [show 0 + (i : Int).toNat * 1 = i by omega]; exact get_ints hi
  have nj2 : numAt (catJ l l.length) ((offJ i : Int)).toNat 8 = l.getD i 0 % 18446744073709551616 := nj
  have ho : 0 ≤ (offJ i : Int) ∧ (offJ i : Int) + 8 ≤ (((catJ l l.length).length : Nat) : Int) := ⟨by omega, by have : offJ i + 8 ≤ (catJ l l.length).length := bj; omega⟩
  rw [nfJ23, e0, g.1, g.2, if_pos ho, nj2]
  refine (if_pos (by simp; omega)).trans ?_
  refine (if_pos (show (((i : Int).tmod 4) == 0) = false by rw [tmod4, hm]; rfl)).trans ?_
  refine (if_pos (show (((i : Int).tmod 4) == 1) = false by rw [tmod4, hm]; rfl)).trans ?_
  refine (if_pos (show (((i : Int).tmod 4) == 2) = false by rw [tmod4, hm]; rfl)).trans ?_
  refine (if_pos (show (((i : Int).tmod 4) == 3) = true by rw [tmod4, hm]; rfl)).trans ?_
  refine (if_pos (by rw [Bool.true_and]; exact decide_eq_true (show (((catJ l l.length).length : Nat) : Int) < _ by omega))).trans ?_
  refine (if_pos (by omega)).trans ?_
  refine (if_pos rfl).trans ?_
  refine (if_neg (by rw [decide_eq_true ho]; simp)).trans ?_
  refine (if_pos (by
    have a1 : intV (some (AV.int IntKind.u64 (l.getD i 0))) = l.getD i 0 := rfl
    rw [a1, Int.emod_eq_of_lt hz.1 hz.2, xor64]; rfl)).trans ?_
  refine (if_neg (by rw [tmod4, hm]; decide)).trans ?_
  have e1 : IntKind.i64.wrap ((offJ i : Int) + IntKind.i64.wrap (1 * 2 ^ min (((i : Int).tmod 4).toNat) 64)) = ((offJ (i + 1) : Nat) : Int) := by
    rw [tmod4, hm]
    show IntKind.i64.wrap ((offJ i : Int) + 8) = _
    rw [wrapI64 (by omega), offJ, hm]; rfl
  have e2 : IntKind.i64.wrap ((i : Int) + 1) = ((i + 1 : Nat) : Int) := by rw [wrapI64 (by omega)]; omega
  rw [e1, e2]
  rfl

theorem stepJ00 {l : List Int} (hn : l.length ≤ 50) (hw : ∀ z ∈ l, 0 ≤ z ∧ z < 18446744073709551616) (hi : 0 < l.length) :
    ∃ vs1 h1, qround Try.prog tJ 100 4 [(24, .bool true), (29, .bool true)] noT J1 mJ1 (vJ1 l (.sl none 0 0 true) 0) [farU l] = some (.norm, vs1, h1) ∧ Gc 1 vs1 h1 (vJ1 l (slB 1 (catJ l 1)) 1) [farU l, ownB (catJ l 1)] := by
  have hz := hw _ (mem_getD hi)
  have e0 : ((l.map (AV.int .u64))[0]?) = some (.int .u64 (l.getD 0 0)) := get_ints hi
  have hr : 0 ≤ (IntKind.u8.wrap (l.getD 0 0)) ∧ (IntKind.u8.wrap (l.getD 0 0)) < 256 := by simp [IntKind.wrap, IntKind.bits, IntKind.signed]; omega
  have e : catJ l 1 = bigR (IntKind.u8.wrap (l.getD 0 0)) 1 := by
    show [] ++ bigR (l.getD 0 0) 1 = _
    exact (bigR_emod (l.getD 0 0) 1 1 (by omega)).symm.trans (by simp [IntKind.wrap, IntKind.bits, IntKind.signed])
  rw [nfJ0]
  refine ⟨?_, ?_, ?_, ?_⟩
  rotate_left 2
  · rw [e0]
    refine (if_pos (by simp; omega)).trans ?_
    refine (if_pos ⟨by decide, by omega⟩).trans ?_
    refine (if_pos rfl).trans ?_
    refine (if_pos ?_).trans ?_
    · first | exact hr | exact decide_eq_true hr | (simp; exact hr) | (exact decide_eq_true ⟨by decide, hr⟩)
    rfl
  · unfold hJ01
    rw [e0, e]
    exact Gc.refl
def stJ (l : List Int) : Nat → List AV × AHeap
  | 0 => (vJ1 l (.sl none 0 0 true) 0, [farU l])
  | i + 1 => (vJ1 l (slB 1 (catJ l (i + 1))) ((i + 1 : Nat) : Int), [farU l, ownB (catJ l (i + 1))])

theorem runOctetJoins (l : List Int) (hw0 : ∀ z ∈ l, (Lit.int .u64 z).wf = true) : ∃ h', Runs Try.prog 7 [slU l] [farU l] (.bool true) h' := by
  have hw : ∀ z ∈ l, 0 ≤ z ∧ z < 18446744073709551616 := fun z hz => u64_wf (hw0 z hz)
  have lp : loopsOf (bodyOf Try.prog 7) = [J1, J2] := by kernel_rfl
  by_cases h0 : l = []
  · subst h0
    exact Runs.valT0 tJOk (F := 100) (n := 4) (pr := []) (nfJn _)
  have hp : 0 < l.length := List.length_pos_iff.2 h0
  have k1 : l.length ≤ 50 → ∃ k, GReach (roundG Try.prog (deepT Try.prog tJ 100 4) (lsT noT) J1 mJ1) 1 k (vJ1 l (.sl none 0 0 true) 0) [farU l] (.exit 0) (vJ1 l (slB 1 (catJ l l.length)) l.length) [farU l, ownB (catJ l l.length)] := by
    intro hn
    refine loop_T (stJ l) (N := l.length) (by simp) (fun i hi => ?_) ?_
    · cases i with
      | zero => exact ⟨_, stepJ00 hn hw hp⟩
      | succ i =>
        rcases (by omega : (i + 1) % 4 = 0 ∨ (i + 1) % 4 = 1 ∨ (i + 1) % 4 = 2 ∨ (i + 1) % 4 = 3) with hm | hm | hm | hm
        · exact ⟨_, stepJ10 hn hw hi hm⟩
        · exact ⟨_, stepJ11 hn hw hi hm⟩
        · exact ⟨_, stepJ12 hn hw hi hm⟩
        · exact ⟨_, stepJ13 hn hw hi hm⟩
    · obtain ⟨n, hl⟩ : ∃ n, l.length = n + 1 := ⟨l.length - 1, by omega⟩
      rw [hl]
      exact ⟨_, _, _, (nfJ1s l _ _ _).trans (if_pos (by simp [hl])), Gc.refl⟩
  have k2 : l.length ≤ 50 → ∃ k, GReach (roundG Try.prog (deepT Try.prog tJ 100 4) (lsT noT) J2 mJ2) 2 k (vJ2 l (slB 1 (catJ l l.length)) 0 0) [farU l, ownB (catJ l l.length)] (.exit 3) (vJ2 l (slB 1 (catJ l l.length)) (offJ l.length) l.length) [farU l, ownB (catJ l l.length)] := by
    intro hn
    refine loop_T (fun i => (vJ2 l (slB 1 (catJ l l.length)) (offJ i) i, [farU l, ownB (catJ l l.length)])) (N := l.length) (by simp) (fun i hi => ?_) ⟨_, _, _, (nfJ2s l _ _ _ _).trans (if_pos (by simp)), Gc.refl⟩
    rcases (by omega : i % 4 = 0 ∨ i % 4 = 1 ∨ i % 4 = 2 ∨ i % 4 = 3) with hm | hm | hm | hm
    · exact ⟨_, _, _, stepJ20 hn hw hi hm, Gc.refl⟩
    · exact ⟨_, _, _, stepJ21 hn hw hi hm, Gc.refl⟩
    · exact ⟨_, _, _, stepJ22 hn hw hi hm, Gc.refl⟩
    · exact ⟨_, _, _, stepJ23 hn hw hi hm, Gc.refl⟩
  refine Runs.valT tJOk (F := 100) (n := 4) (pr := []) (both (k := 5) (k2 := 18) lp (by kernel_rfl) (by kernel_rfl) (by decide) (fixC_T tJOk (F := 100) (n := 4) (LS := noT) (noLoops (by kernel_rfl)) k1) (fixC_T tJOk (F := 100) (n := 4) (LS := noT) (noLoops (by kernel_rfl)) k2)) ?_
  rw [nfJ]
  by_cases h : 50 < l.length
  · exact if_pos (by simp; omega)
  refine (if_neg (by simp; omega)).trans ?_
  refine (if_pos (cdec_true.2 ⟨by omega, rfl, rfl⟩)).trans ?_
  refine (if_pos (cdec_true.2 ⟨by omega, rfl, rfl⟩)).trans ?_
  exact if_pos (by rw [catJ_length]; simp)

end Go.Proofs.Ytejbipoibpefnaa.L
