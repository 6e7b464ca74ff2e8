/- What the document says of IPv4's header. -/
import Derived.Test.YtmlmdbicbpicbaaAddrKit
set_option autoImplicit false
set_option linter.unusedVariables false
namespace Go.Abs

/-- A header's size. -/
def s4 (l : List UInt8) : Int := byt l 0 % 16 * 4
/-- Why a header is none; 0: it is one. -/
def r4 (l : List UInt8) : Int :=
  if l.length < 20 then 1 else if byt l 0 / 16 ≠ 4 then 3 else if s4 l < 20 then 3 else if word l 2 < s4 l then 3 else if (l.length : Int) < word l 2 then 1 else if chkI (l.take (s4 l).toNat) ≠ 0 then 4
  else if word l 6 % 16384 ≠ 0 then 5 else if byt l 9 ≠ 6 ∧ byt l 9 ≠ 17 then 6 else 0
def z4 (l : List UInt8) (x : Int) : Int := if r4 l = 0 then x else 0
def adrZ4 (l : List UInt8) (p : Nat) : List AV := adrV false (z4 l (byt l p)) (z4 l (byt l (p + 1))) (z4 l (byt l (p + 2))) (z4 l (byt l (p + 3))) 0 0 0 0 0 0 0 0 0 0 0 0
def head4 (l : List UInt8) : List AV := [.int .i64 (z4 l (s4 l)), .int .i64 (z4 l (word l 2)), .int .u8 (z4 l (byt l 9))] ++ adrZ4 l 12 ++ adrZ4 l 16
def v4Read (l : List UInt8) : AV := .tup [.agg (head4 l), .int .i64 (r4 l)]

theorem byt_tk4 {l : List UInt8} {p n i : Nat} (h : i < n) : byt (List.take n (List.drop p l)) i = byt l (p + i) := byt_part h
theorem fdiv16' (x : Int) : x.fdiv 16 = x / 16 := Int.fdiv_eq_ediv_of_nonneg _ (by omega)

theorem and15 {n : Int} (h : 0 ≤ n ∧ n < 256) : abits .u8 (· &&& ·) n 15 = n % 16 := by
  obtain ⟨a, rfl⟩ := Int.eq_ofNat_of_zero_le h.1
  have h1 : (BitVec.ofInt 8 (15 : Int)).toNat = 15 := by decide
  have h2 := ofIntNat 8 a (by omega)
  show IntKind.u8.wrap ((BitVec.ofInt 8 (a : Int) &&& BitVec.ofInt 8 (15 : Int)).toNat : Int) = _
  rw [BitVec.toNat_and, h2, h1, show (15 : Nat) = 2 ^ 4 - 1 by rfl, Nat.and_two_pow_sub_one_eq_mod, wrapU8 (by omega)]
  omega
theorem and3f {n : Int} (h : 0 ≤ n ∧ n < 65536) : abits .u16 (· &&& ·) n 16383 = n % 16384 := by
  obtain ⟨a, rfl⟩ := Int.eq_ofNat_of_zero_le h.1
  have h1 : (BitVec.ofInt 16 (16383 : Int)).toNat = 16383 := by decide
  have h2 := ofIntNat 16 a (by omega)
  show IntKind.u16.wrap ((BitVec.ofInt 16 (a : Int) &&& BitVec.ofInt 16 (16383 : Int)).toNat : Int) = _
  rw [BitVec.toNat_and, h2, h1, show (16383 : Nat) = 2 ^ 14 - 1 by rfl, Nat.and_two_pow_sub_one_eq_mod, wrapU16 (by omega)]
  omega
theorem and3fi {n : Int} (h : 0 ≤ n ∧ n < 65536) : abits .i64 (· &&& ·) n 16383 = n % 16384 := by
  obtain ⟨a, rfl⟩ := Int.eq_ofNat_of_zero_le h.1
  have h1 : (BitVec.ofInt 64 (16383 : Int)).toNat = 16383 := by decide
  have h2 := ofIntNat 64 a (by omega)
  show IntKind.i64.wrap ((BitVec.ofInt 64 (a : Int) &&& BitVec.ofInt 64 (16383 : Int)).toNat : Int) = _
  rw [BitVec.toNat_and, h2, h1, show (16383 : Nat) = 2 ^ 14 - 1 by rfl, Nat.and_two_pow_sub_one_eq_mod, wrapI64 (by omega)]
  omega

/-- Four bytes, and the others. -/
def adr4c (a b c d : UInt8) (X : List AV) : List AV := .int .u8 ((a.toNat : Nat) : Int) :: .int .u8 ((b.toNat : Nat) : Int) :: .int .u8 ((c.toNat : Nat) : Int) :: .int .u8 ((d.toNat : Nat) : Int) :: X
theorem adr4_lit {X : List UInt8} (h : X.length = 16) : ∃ a b c d Y, bys X = adr4c a b c d (bys Y) ∧ X = a :: b :: c :: d :: Y ∧ Y.length = 12 := by
  match X, h with
  | a :: b :: c :: d :: Y, h => exact ⟨a, b, c, d, Y, rfl, rfl, by simpa using h⟩

theorem r4_len {l : List UInt8} (h : r4 l = 0) : 20 ≤ l.length := by
  unfold r4 at h
  split at h
  · omega
  · omega
/-- Its checksum, to another one. -/
def c4 (l T : List UInt8) : Int := changeI (word l 10) ((l.drop 16).take 4) T
def dest4 (l : List UInt8) (cs : List AV) : List UInt8 := if r4 l = 0 ∧ adrV6 cs = false then setsUp (setsUp l 10 (bigR (c4 l (adrBytes cs)) 2)) 16 (adrBytes cs) else []
def eDst4 : GEnt := fun args h => match args with
  | [b, .agg cs] => some (bOk h b && (adrWf cs && decide (nOf b ≤ 1000000000000)), slB h.length (dest4 (bOf h b) cs), h ++ [ownB (dest4 (bOf h b) cs)])
  | _ => none
theorem dest4_N {l : List UInt8} {cs : List AV} (h : r4 l ≠ 0 ∨ adrV6 cs = true) : dest4 l cs = [] := by
  unfold dest4; rw [if_neg]; rintro ⟨h1, h2⟩
  rcases h with h | h
  · exact h h1
  · rw [h] at h2; simp at h2
theorem adr4_facts {a b c d : UInt8} {Y : List UInt8} (hY : Y.length = 12) :
    List.take 17 (AV.bool false :: .int .u8 ((a.toNat : Nat) : Int) :: .int .u8 ((b.toNat : Nat) : Int) :: .int .u8 ((c.toNat : Nat) : Int) :: .int .u8 ((d.toNat : Nat) : Int) :: bys Y) = AV.bool false :: .int .u8 ((a.toNat : Nat) : Int) :: .int .u8 ((b.toNat : Nat) : Int) :: .int .u8 ((c.toNat : Nat) : Int) :: .int .u8 ((d.toNat : Nat) : Int) :: bys Y ∧
    adrWf (AV.bool false :: .int .u8 ((a.toNat : Nat) : Int) :: .int .u8 ((b.toNat : Nat) : Int) :: .int .u8 ((c.toNat : Nat) : Int) :: .int .u8 ((d.toNat : Nat) : Int) :: bys Y) = true ∧
    adrBytes (AV.bool false :: .int .u8 ((a.toNat : Nat) : Int) :: .int .u8 ((b.toNat : Nat) : Int) :: .int .u8 ((c.toNat : Nat) : Int) :: .int .u8 ((d.toNat : Nat) : Int) :: bys Y) = [a, b, c, d] := by
  refine ⟨List.take_of_length_le (by simp [hY]), ?_, ?_⟩
  · exact adrB_wf (X := a :: b :: c :: d :: Y) (by simp [hY])
  · show [byteD (.int .u8 ((a.toNat : Nat) : Int)), byteD (.int .u8 ((b.toNat : Nat) : Int)), byteD (.int .u8 ((c.toNat : Nat) : Int)), byteD (.int .u8 ((d.toNat : Nat) : Int))] = _
    simp only [byteD_u8]
theorem setsUp_length : ∀ (xs l : List UInt8) (p : Nat), (setsUp l p xs).length = l.length
  | [], _, _ => rfl
  | x :: xs, l, p => by rw [setsUp, setsUp_length xs]; simp
theorem putCells_up (xs l : List UInt8) (o : Nat) (h : o + xs.length ≤ l.length) : putCells (bys l) o (bys xs) = bys (setsUp l o xs) := by rw [putCells_bytes _ _ _ h, setsUp_eq _ _ _ h]
theorem putR_up (l : List UInt8) (p sz : Nat) (v : Int) (h : p + sz ≤ l.length) : putR l p sz v = setsUp l p (bigR v sz) := by
  rw [setsUp_eq _ _ _ (by simp; omega), putR, if_pos (by omega)]; simp

/-- A header that is made. -/
def base4 (pr n : Int) (S D : List UInt8) : List UInt8 := [69, 0, u8i ((20 + n) / 256), u8i (20 + n), 0, 0, 64, 0, 64, u8i pr, 0, 0] ++ S ++ D
def hdr4 (pr n : Int) (S D : List UInt8) : List UInt8 := setsUp (base4 pr n S D) 10 (bigR (chkI (base4 pr n S D)) 2)
def makes4 (cs ds : List AV) (n : Int) : Prop := adrV6 cs = false ∧ adrV6 ds = false ∧ 0 ≤ n ∧ n ≤ 65515
instance (cs ds : List AV) (n : Int) : Decidable (makes4 cs ds n) := by unfold makes4; infer_instance
def make4 (cs ds : List AV) (pr n : Int) : List UInt8 := if makes4 cs ds n then hdr4 pr n (adrBytes cs) (adrBytes ds) else []
theorem make4_N {cs ds : List AV} {pr n : Int} (h : ¬ makes4 cs ds n) : make4 cs ds pr n = [] := by unfold make4; rw [if_neg h]
def eMk4 : GEnt := fun args h => match args with
  | [.agg cs, .agg ds, .int .u8 pr, .int .i64 n] => some (adrWf cs && (adrWf ds && decide (0 ≤ pr ∧ pr < 256)), .tup [slB h.length (make4 cs ds pr n), .bool (decide (makes4 cs ds n))], h ++ [ownB (make4 cs ds pr n)])
  | _ => none
theorem isByteR_u8 (x : UInt8) : isByteR (.int .u8 ((x.toNat : Nat) : Int)) = true := by
  have := x.toNat_lt
  simp [isByteR]; omega
theorem byteD_i8 {k : IntKind} {x : Int} (h : 0 ≤ x ∧ x < 256) : byteD (.int k x) = u8i x := by
  obtain ⟨a, rfl⟩ := Int.eq_ofNat_of_zero_le h.1
  have : (a : Int) % 256 = a := by omega
  simp [byteD, u8i, this]

end Go.Abs
