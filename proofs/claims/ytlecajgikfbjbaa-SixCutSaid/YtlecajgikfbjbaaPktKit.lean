/- Flows' and servers' bytes; packets that are made. -/
import Derived.Test.YtlecajgikfbjbaaSixKit
set_option autoImplicit false
set_option linter.unusedVariables false
set_option linter.unusedSimpArgs false
namespace Go.Abs

theorem byteD_u8i {k : IntKind} {x : Int} (h : 0 ≤ x ∧ x < 256) : byteD (.int k x) = u8i x := by
  show UInt8.ofNat x.toNat = UInt8.ofNat (x % 256).toNat
  rw [Int.emod_eq_of_lt h.1 h.2]
theorem u8i_val {x : Int} (h : 0 ≤ x ∧ x < 256) : ((u8i x).toNat : Int) = x := by rw [u8i_toNat]; omega
theorem byt_app (A X : List UInt8) (i : Nat) : byt (A ++ X) i = if i < A.length then byt A i else byt X (i - A.length) := by
  simp only [byt, List.getD]
  split
  · rename_i h; rw [List.getElem?_append_left h]
  · rename_i h; rw [List.getElem?_append_right (by omega)]

def kSrcB (n : Int) : List UInt8 := [10, u8i (kb1 n), u8i (kb2 n), u8i (kb3 n), 0, 0, 0, 0, 0, 0, 0, 0, 0, 0, 0, 0]
def kDstB : List UInt8 := [192, 168, 0, 1, 0, 0, 0, 0, 0, 0, 0, 0, 0, 0, 0, 0]
def dAdrB (m : Int) : List UInt8 := [172, 16, 0, u8i (db3 m), 0, 0, 0, 0, 0, 0, 0, 0, 0, 0, 0, 0]
theorem kSrc_B (v : Bool) (n : Int) : kSrc v n = .bool v :: bys (kSrcB n) := by
  simp [kSrc, adrV, kSrcB, bys, u8i_val (kb1_range n), u8i_val (kb2_range n), u8i_val (kb3_range n)]
theorem kDst_B (v : Bool) : kDst v = .bool v :: bys kDstB := by simp [kDst, adrV, kDstB, bys]
theorem dAdr_B (v : Bool) (m : Int) : dAdr v m = .bool v :: bys (dAdrB m) := by
  have := db3_range m
  simp [dAdr, adrV, dAdrB, bys, u8i_val (x := db3 m) (by omega)]

/-- IPv6's packet. -/
def pk6 (ln : Int) (p : UInt8) (S D d : List UInt8) : List UInt8 := [96, 0, 0, 0, u8i (ln / 256), u8i ln, p, 64] ++ S ++ D ++ d

theorem pk6_read {ln : Int} {p : UInt8} {S D d : List UInt8} (hS : S.length = 16) (hD : D.length = 16) (hl : 0 ≤ ln ∧ ln ≤ d.length ∧ ln ≤ 65535) (hp : p = 6 ∨ p = 17) :
    r6 (pk6 ln p S D d) = 0 ∧ head6 (pk6 ln p S D d) = [.int .i64 (40 + ln), .int .u8 p.toNat] ++ (.bool true :: bys S) ++ (.bool true :: bys D) := by
  have hlen : (pk6 ln p S D d).length = 40 + d.length := by simp [pk6, hS, hD]; omega
  have b0 : byt (pk6 ln p S D d) 0 = 96 := rfl
  have b4 : word (pk6 ln p S D d) 4 = ln := by
    show ((u8i (ln / 256)).toNat : Int) * 256 + ((u8i ln).toNat : Int) = ln
    rw [u8i_toNat, u8i_toNat]; omega
  have b6 : byt (pk6 ln p S D d) 6 = p.toNat := rfl
  have hpp : (p.toNat : Int) = 6 ∨ (p.toNat : Int) = 17 := by rcases hp with rfl | rfl <;> simp
  have hr : r6 (pk6 ln p S D d) = 0 := by
    unfold r6
    rw [b0, b4, b6, hlen, if_neg (by omega), if_neg (by omega), if_neg (by omega), if_neg (by omega), if_neg (by omega)]
  refine ⟨hr, ?_⟩
  obtain ⟨s0, s1, s2, s3, s4, s5, s6, s7, s8, s9, s10, s11, s12, s13, s14, s15, rfl⟩ := sixteen_of hS
  obtain ⟨t0, t1, t2, t3, t4, t5, t6, t7, t8, t9, t10, t11, t12, t13, t14, t15, rfl⟩ := sixteen_of hD
  unfold head6 adrZ6 z6
  simp only [hr, b4, b6, if_true]
  rfl

theorem pk6_take {ln : Int} {p : UInt8} {S D d : List UInt8} (hS : S.length = 16) : (pk6 ln p S D d).take 24 = [96, 0, 0, 0, u8i (ln / 256), u8i ln, p, 64] ++ S := by
  unfold pk6
  rw [List.append_assoc, List.take_append_of_le_length (by simp [hS])]
  exact List.take_of_length_le (by simp [hS])
theorem pk6_drop {ln : Int} {p : UInt8} {S D d : List UInt8} (hS : S.length = 16) (hD : D.length = 16) : (pk6 ln p S D d).drop 40 = d := by
  unfold pk6
  exact List.drop_left' (by simp [hS, hD])
theorem pk6_dest {ln : Int} {p : UInt8} {S D T d : List UInt8} (hS : S.length = 16) (hD : D.length = 16) (hr : r6 (pk6 ln p S D d) = 0) : dest6 (pk6 ln p S D d) (.bool true :: bys T) = pk6 ln p S T d := by
  unfold dest6
  rw [if_pos ⟨hr, rfl⟩, pk6_take hS, pk6_drop hS hD, adrB_T]
  simp [pk6]
theorem pk6_make {ln pr : Int} {S D d : List UInt8} (hl : 0 ≤ ln ∧ ln ≤ 65535) : makes6 (.bool true :: bys S) (.bool true :: bys D) ln ∧ make6 (.bool true :: bys S) (.bool true :: bys D) pr ln ++ d = pk6 ln (u8i pr) S D d := by
  have hm : makes6 (.bool true :: bys S) (.bool true :: bys D) ln := ⟨rfl, rfl, hl.1, hl.2⟩
  refine ⟨hm, ?_⟩
  unfold make6 pk6; rw [if_pos hm, adrB_T, adrB_T]
theorem pk6_length {ln : Int} {p : UInt8} {S D d : List UInt8} (hS : S.length = 16) (hD : D.length = 16) : (pk6 ln p S D d).length = 40 + d.length := by simp [pk6, hS, hD]; omega

def rd6c (L P : Int) (s t : List AV) : AV := .tup [.agg ([.int .i64 L, .int .u8 P] ++ s ++ t), .int .i64 0]
def rd6n (r : Int) : AV := .tup [.agg ([.int .i64 0, .int .u8 0] ++ adrV false 0 0 0 0 0 0 0 0 0 0 0 0 0 0 0 0 ++ adrV false 0 0 0 0 0 0 0 0 0 0 0 0 0 0 0 0), .int .i64 r]
theorem v6Read_n {l : List UInt8} {r : Int} (h : r6 l = r) (hr : r ≠ 0) : v6Read l = rd6n r := by
  have e : ∀ x, z6 l x = 0 := fun x => by unfold z6; rw [h, if_neg hr]
  have e2 : decide (r6 l = 0) = false := decide_eq_false (by rw [h]; exact hr)
  unfold v6Read head6 adrZ6 rd6n
  simp only [e, h]
  rw [← h, e2]
theorem pk6_short {ln : Int} {p : UInt8} {S D d : List UInt8} (hS : S.length = 16) (hD : D.length = 16) (hl : (d.length : Int) < ln ∧ ln ≤ 65535) : r6 (pk6 ln p S D d) = 1 := by
  have hlen : (pk6 ln p S D d).length = 40 + d.length := pk6_length hS hD
  have b0 : byt (pk6 ln p S D d) 0 = 96 := rfl
  have b4 : word (pk6 ln p S D d) 4 = ln := by
    show ((u8i (ln / 256)).toNat : Int) * 256 + ((u8i ln).toNat : Int) = ln
    rw [u8i_toNat, u8i_toNat]; omega
  unfold r6
  rw [b0, b4, hlen, if_neg (by omega), if_neg (by omega), if_pos (by omega)]
theorem pk6_takeC {ln : Int} {p : UInt8} {S D d : List UInt8} {c : Nat} (hS : S.length = 16) (hD : D.length = 16) (hc : 40 ≤ c) : (pk6 ln p S D d).take c = pk6 ln p S D (d.take (c - 40)) := by
  unfold pk6
  rw [List.take_append, List.take_of_length_le (by simp [hS, hD]; omega)]
  congr 2
  simp [hS, hD]
theorem r6_lt {l : List UInt8} (h : l.length < 40) : r6 l = 1 := by unfold r6; rw [if_pos h]
theorem pk6_cut {ln : Nat} {p : UInt8} {S D d : List UInt8} {c : Nat} (hS : S.length = 16) (hD : D.length = 16) (hl : ln ≤ 65535) (hc : c < 40 + ln) : r6 ((pk6 ln p S D d).take c) = 1 := by
  by_cases h : c < 40
  · exact r6_lt (by simp; omega)
  · rw [pk6_takeC hS hD (by omega)]
    exact pk6_short hS hD (by simp; omega)

end Go.Abs
