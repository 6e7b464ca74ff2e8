/- IPv4's packets. -/
import Derived.Test.YtmlmdbicbpicbaaFourKit
import Derived.Test.YtmlmdbicbpicbaaKeyDip
set_option autoImplicit false
set_option linter.unusedVariables false
set_option linter.unusedSimpArgs false
namespace Go.Abs

/-- A packet's header. -/
def hdO (w : Nat) (L : Int) (p : UInt8) (C : Int) (S D O : List UInt8) : List UInt8 := [u8i (69 + w), 0, u8i (L / 256), u8i L, 0, 0, 64, 0, 64, p, u8i (C / 256), u8i C] ++ S ++ D ++ O
def pkO (w : Nat) (L : Int) (p : UInt8) (C : Int) (S D O d : List UInt8) : List UInt8 := hdO w L p C S D O ++ d

theorem wsum_hdO {w : Nat} (hw : w ≤ 10) (L : Int) (p : UInt8) : ∃ K : Int, 0 < K ∧ ∀ (C : Int) (S D O : List UInt8), 0 ≤ C ∧ C < 65536 → S.length = 4 → D.length = 4 → wsum (hdO w L p C S D O) = K + C + wsum S + wsum D + wsum O := by
  refine ⟨wsum [u8i (69 + w), 0, u8i (L / 256), u8i L, 0, 0, 64, 0, 64, p], ?_, ?_⟩
  · have h1 := u8i_toNat (69 + w)
    simp only [wsum]
    omega
  · intro C S D O hC hS hD
    unfold hdO
    rw [wsum_append _ _ (by simp [hS, hD]), wsum_append _ _ (by simp [hS]), wsum_append _ _ (by simp)]
    have h1 := u8i_toNat (C / 256)
    have h2 := u8i_toNat C
    simp only [wsum]
    omega
theorem chkI_zero (l : List UInt8) : chkI l = 0 ↔ wsum l % 65535 = 0 ∧ 0 < wsum l := by
  have := wsum_range l
  unfold chkI sumI foldI
  split <;> omega
theorem hdO_change {w : Nat} {L : Int} {p : UInt8} {C : Int} {S D T O : List UInt8} (hw : w ≤ 10) (hC : 0 ≤ C ∧ C < 65536) (hS : S.length = 4) (hD : D.length = 4) (hT : T.length = 4) (h : chkI (hdO w L p C S D O) = 0) :
    chkI (hdO w L p (changeI C D T) S T O) = 0 := by
  obtain ⟨K, hK, e⟩ := wsum_hdO hw L p
  rw [chkI_zero, e _ _ _ _ hC hS hD] at h
  rw [chkI_zero, e _ _ _ _ (changeI_range _ _ hC) hS hT]
  have h1 := chgI_mod D T C (by omega) (by omega) hC
  have h2 := changeI_range D T hC
  have h3 : changeI C D T = chgI C D T := if_pos ⟨by omega, by omega⟩
  rw [h3] at h2 ⊢
  have r1 := (wsum_range S).1
  have r2 := (wsum_range T).1
  have r3 := (wsum_range O).1
  have r4 := (wsum_range D).1
  omega
theorem hdO_make {w : Nat} {L : Int} {p : UInt8} {S D O : List UInt8} (hw : w ≤ 10) (hS : S.length = 4) (hD : D.length = 4) : chkI (hdO w L p (chkI (hdO w L p 0 S D O)) S D O) = 0 := by
  obtain ⟨K, hK, e⟩ := wsum_hdO hw L p
  have hr := chkI_range (hdO w L p 0 S D O)
  rw [chkI_zero, e _ _ _ _ hr hS hD]
  have h0 := e 0 S D O (by omega) hS hD
  have h1 := wsum_range (hdO w L p 0 S D O)
  have h2 := foldI_mod (n := 0 + wsum (hdO w L p 0 S D O)) (by omega)
  have r1 := (wsum_range S).1
  have r2 := (wsum_range D).1
  have r3 := (wsum_range O).1
  unfold chkI sumI at *
  omega

theorem four_of' {l : List UInt8} (h : l.length = 4) : ∃ a b c d, l = [a, b, c, d] := by
  match l, h with
  | [a, b, c, d], _ => exact ⟨a, b, c, d, rfl⟩
theorem hdO_length {w : Nat} {L : Int} {p : UInt8} {C : Int} {S D O : List UInt8} (hS : S.length = 4) (hD : D.length = 4) (hO : O.length = 4 * w) : (hdO w L p C S D O).length = 20 + 4 * w := by simp [hdO, hS, hD, hO]; omega
theorem pkO_length {w : Nat} {L : Int} {p : UInt8} {C : Int} {S D O d : List UInt8} (hS : S.length = 4) (hD : D.length = 4) (hO : O.length = 4 * w) : (pkO w L p C S D O d).length = 20 + 4 * w + d.length := by simp [pkO, hdO_length hS hD hO]

def Z12 : List UInt8 := [0, 0, 0, 0, 0, 0, 0, 0, 0, 0, 0, 0]
theorem pkO_read {w : Nat} {L : Int} {p : UInt8} {C : Int} {S D O d : List UInt8} (hw : w ≤ 10) (hS : S.length = 4) (hD : D.length = 4) (hO : O.length = 4 * w) (hL : 20 + 4 * (w : Int) ≤ L ∧ L ≤ 65535 ∧ L ≤ 20 + 4 * (w : Int) + d.length) (hp : p = 6 ∨ p = 17)
    (hv : chkI (hdO w L p C S D O) = 0) :
    r4 (pkO w L p C S D O d) = 0 ∧ head4 (pkO w L p C S D O d) = [.int .i64 (20 + 4 * (w : Int)), .int .i64 L, .int .u8 p.toNat] ++ (.bool false :: bys (S ++ Z12)) ++ (.bool false :: bys (D ++ Z12)) := by
  have hlen : (pkO w L p C S D O d).length = 20 + 4 * w + d.length := pkO_length hS hD hO
  have b0 : byt (pkO w L p C S D O d) 0 = 69 + w := by
    show ((u8i (69 + w)).toNat : Int) = _
    rw [u8i_toNat]; omega
  have b2 : word (pkO w L p C S D O d) 2 = L := by
    show ((u8i (L / 256)).toNat : Int) * 256 + ((u8i L).toNat : Int) = L
    rw [u8i_toNat, u8i_toNat]; omega
  have b6 : word (pkO w L p C S D O d) 6 = 16384 := by
    show ((64 : UInt8).toNat : Int) * 256 + ((0 : UInt8).toNat : Int) = 16384
    decide
  have b9 : byt (pkO w L p C S D O d) 9 = p.toNat := rfl
  have hpp : (p.toNat : Int) = 6 ∨ (p.toNat : Int) = 17 := by rcases hp with rfl | rfl <;> simp
  have hs : s4 (pkO w L p C S D O d) = 20 + 4 * (w : Int) := by unfold s4; rw [b0]; omega
  have ht : (pkO w L p C S D O d).take (s4 (pkO w L p C S D O d)).toNat = hdO w L p C S D O := by
    rw [hs]; unfold pkO
    exact List.take_left' (by rw [hdO_length hS hD hO]; omega)
  have hr : r4 (pkO w L p C S D O d) = 0 := by
    unfold r4
    rw [ht, hv, b0, b2, b6, b9, hlen, hs, if_neg (by omega), if_neg (by omega), if_neg (by omega), if_neg (by omega), if_neg (by omega), if_neg (by omega), if_neg (by omega), if_neg (by omega)]
  refine ⟨hr, ?_⟩
  obtain ⟨s0, s1, s2, s3, rfl⟩ := four_of' hS
  obtain ⟨t0, t1, t2, t3, rfl⟩ := four_of' hD
  unfold head4 adrZ4 z4
  simp only [hr, hs, b2, b9, if_true]
  rfl
theorem bigR_two (v : Int) : bigR v 2 = [u8i (v / 256), u8i v] := by
  show [u8i (v.fdiv 256), u8i (v.fdiv 1)] = _
  rw [Int.fdiv_eq_ediv_of_nonneg _ (by omega), Int.fdiv_eq_ediv_of_nonneg _ (by omega), Int.ediv_one]
theorem pkO_dest {w : Nat} {L : Int} {p : UInt8} {C : Int} {S D O d X T : List UInt8} (hS : S.length = 4) (hD : D.length = 4) (hC : 0 ≤ C ∧ C < 65536) (hX : X.take 4 = T) (hT : T.length = 4) (hr : r4 (pkO w L p C S D O d) = 0) :
    dest4 (pkO w L p C S D O d) (.bool false :: bys X) = pkO w L p (changeI C D T) S T O d := by
  have b10 : word (pkO w L p C S D O d) 10 = C := by
    show ((u8i (C / 256)).toNat : Int) * 256 + ((u8i C).toNat : Int) = C
    rw [u8i_toNat, u8i_toNat]; omega
  unfold dest4 c4
  rw [if_pos ⟨hr, rfl⟩, adrB_F, hX, b10]
  obtain ⟨s0, s1, s2, s3, rfl⟩ := four_of' hS
  obtain ⟨t0, t1, t2, t3, rfl⟩ := four_of' hD
  obtain ⟨a, b, c, e, rfl⟩ := four_of' hT
  have h16 : ((pkO w L p C [s0, s1, s2, s3] [t0, t1, t2, t3] O d).drop 16).take 4 = [t0, t1, t2, t3] := rfl
  rw [h16, bigR_two]
  rfl
theorem pkO_make {n pr : Int} {X Y S D : List UInt8} (hn : 0 ≤ n ∧ n ≤ 65515) (hX : X.take 4 = S) (hY : Y.take 4 = D) : makes4 (.bool false :: bys X) (.bool false :: bys Y) n ∧
    (S.length = 4 → D.length = 4 → make4 (.bool false :: bys X) (.bool false :: bys Y) pr n = hdO 0 (20 + n) (u8i pr) (chkI (hdO 0 (20 + n) (u8i pr) 0 S D [])) S D []) := by
  have hm : makes4 (.bool false :: bys X) (.bool false :: bys Y) n := ⟨rfl, rfl, hn.1, hn.2⟩
  refine ⟨hm, fun hS hD => ?_⟩
  unfold make4
  rw [if_pos hm, adrB_F, adrB_F, hX, hY]
  obtain ⟨s0, s1, s2, s3, rfl⟩ := four_of' hS
  obtain ⟨t0, t1, t2, t3, rfl⟩ := four_of' hD
  unfold hdr4
  rw [bigR_two]
  rfl
theorem pkO_takes {w : Nat} {L : Int} {p : UInt8} {C : Int} {S D O d : List UInt8} (hS : S.length = 4) (hD : D.length = 4) :
    (pkO w L p C S D O d).take 10 = [u8i (69 + w), 0, u8i (L / 256), u8i L, 0, 0, 64, 0, 64, p] ∧ ((pkO w L p C S D O d).drop 12).take 4 = S ∧ (pkO w L p C S D O d).drop 20 = O ++ d ∧ (pkO w L p C S D O d).drop 12 = S ++ (D ++ (O ++ d)) := by
  obtain ⟨s0, s1, s2, s3, rfl⟩ := four_of' hS
  obtain ⟨t0, t1, t2, t3, rfl⟩ := four_of' hD
  refine ⟨rfl, rfl, ?_, ?_⟩
  · show List.drop 20 ([_, _, _, _, _, _, _, _, _, _, _, _, _, _, _, _, _, _, _, _] ++ O ++ d) = _
    simp
  · show List.drop 12 ([_, _, _, _, _, _, _, _, _, _, _, _, _, _, _, _, _, _, _, _] ++ O ++ d) = _
    simp

/-- A checksum at its place, of any twenty bytes. -/
theorem chk_at10 {A B : List UInt8} (hA : A.length = 10) (h : 0 < wsum A) : chkI (A ++ [u8i (chkI (A ++ [0, 0] ++ B) / 256), u8i (chkI (A ++ [0, 0] ++ B))] ++ B) = 0 := by
  have e : ∀ c : Int, 0 ≤ c ∧ c < 65536 → wsum (A ++ [u8i (c / 256), u8i c] ++ B) = wsum A + c + wsum B := fun c hc => by
    rw [wsum_append _ _ (by simp [hA]), wsum_append _ _ (by omega)]
    have h1 := u8i_toNat (c / 256)
    have h2 := u8i_toNat c
    simp only [wsum]
    omega
  have h0 := e 0 (by omega)
  have hz : A ++ [u8i (0 / 256), u8i 0] ++ B = A ++ [0, 0] ++ B := rfl
  rw [hz] at h0
  have hr := chkI_range (A ++ [0, 0] ++ B)
  rw [chkI_zero, e _ hr]
  have h2 := foldI_mod (n := 0 + wsum (A ++ [0, 0] ++ B)) (by have := wsum_range (A ++ [0, 0] ++ B); omega)
  have r1 := (wsum_range B).1
  unfold chkI sumI at *
  omega
def rd4N (r : Int) : AV := .tup [.agg ([.int .i64 0, .int .i64 0, .int .u8 0] ++ adrV false 0 0 0 0 0 0 0 0 0 0 0 0 0 0 0 0 ++ adrV false 0 0 0 0 0 0 0 0 0 0 0 0 0 0 0 0), .int .i64 r]
theorem v4Read_n {l : List UInt8} {r : Int} (h : r4 l = r) (hr : r ≠ 0) : v4Read l = rd4N r := by
  have e : ∀ x, z4 l x = 0 := fun x => by unfold z4; rw [h, if_neg hr]
  unfold v4Read head4 adrZ4 rd4N
  simp only [e, h]
/-- Twenty-eight bytes. -/
def B4 (a f g v : UInt8) (x y p q r : UInt8) : List UInt8 := [a, 0, 0, f, 0, 0, g, 0, 64, v, x, y, 10, p, q, r, 192, 168, 0, 1, 1, 2, 3, 4, 5, 6, 7, 8]
theorem r4_ver {l : List UInt8} (h : 20 ≤ l.length) (h1 : byt l 0 / 16 ≠ 4 ∨ byt l 0 % 16 * 4 < 20 ∨ word l 2 < byt l 0 % 16 * 4) : r4 l = 3 := by
  unfold r4 s4
  rw [if_neg (by omega)]
  by_cases h2 : byt l 0 / 16 ≠ 4
  · rw [if_pos h2]
  · rw [if_neg h2]
    by_cases h3 : byt l 0 % 16 * 4 < 20
    · rw [if_pos h3]
    · rw [if_neg h3, if_pos (by omega)]
theorem r4_rest {l : List UInt8} (h : 27 ≤ l.length) (h0 : byt l 0 = 69) (h2 : word l 2 = 28) :
    r4 l = if (l.length : Int) < 28 then 1 else if chkI (l.take 20) ≠ 0 then 4 else if word l 6 % 16384 ≠ 0 then 5 else if byt l 9 ≠ 6 ∧ byt l 9 ≠ 17 then 6 else 0 := by
  have hs : s4 l = 20 := by unfold s4; rw [h0]; decide
  unfold r4
  rw [hs, h0, h2, if_neg (by omega), if_neg (by decide), if_neg (by decide), if_neg (by decide)]
  rfl

theorem row4_1 (x y p q r : UInt8) : r4 ((B4 69 28 64 6 x y p q r).take 19) = 1 := by unfold r4; rw [if_pos (by simp [B4])]
theorem row4_2 (x y p q r : UInt8) : r4 (B4 85 28 64 6 x y p q r) = 3 := r4_ver (by simp [B4]) (.inl (by show ((85 : UInt8).toNat : Int) / 16 ≠ 4; decide))
theorem row4_3 (x y p q r : UInt8) : r4 (B4 68 28 64 6 x y p q r) = 3 := r4_ver (by simp [B4]) (.inr (.inl (by show ((68 : UInt8).toNat : Int) % 16 * 4 < 20; decide)))
theorem row4_4 (x y p q r : UInt8) : r4 (B4 69 19 64 6 x y p q r) = 3 := r4_ver (by simp [B4]) (.inr (.inr (by show ((0 : UInt8).toNat : Int) * 256 + ((19 : UInt8).toNat : Int) < ((69 : UInt8).toNat : Int) % 16 * 4; decide)))
theorem row4_5 (x y p q r : UInt8) : r4 ((B4 69 28 64 6 x y p q r).take 27) = 1 := by
  rw [r4_rest (by simp [B4]) (by show ((69 : UInt8).toNat : Int) = 69; decide) (by show ((0 : UInt8).toNat : Int) * 256 + ((28 : UInt8).toNat : Int) = 28; decide), if_pos (by simp [B4])]
theorem row4_x {g v x y p q r : UInt8} : r4 (B4 69 28 g v x y p q r) = if chkI ((B4 69 28 g v x y p q r).take 20) ≠ 0 then 4 else if word (B4 69 28 g v x y p q r) 6 % 16384 ≠ 0 then 5 else if byt (B4 69 28 g v x y p q r) 9 ≠ 6 ∧ byt (B4 69 28 g v x y p q r) 9 ≠ 17 then 6 else 0 := by
  rw [r4_rest (by simp [B4]) (by show ((69 : UInt8).toNat : Int) = 69; decide) (by show ((0 : UInt8).toNat : Int) * 256 + ((28 : UInt8).toNat : Int) = 28; decide), if_neg (by simp [B4])]
theorem row4_6 {x y p q r : UInt8} (h : chkI ((B4 69 28 64 6 x y p q r).take 20) = 0) : r4 (B4 69 28 64 6 (u8i (abits .u8 (· ^^^ ·) (x.toNat : Int) 1)) y p q r) = 4 := by
  have hx : (0 : Int) ≤ (x.toNat : Int) ∧ (x.toNat : Int) < 256 := by have := x.toNat_lt; omega
  obtain ⟨d, e, hd, hq⟩ := flip_byte (q := 0) hx (by decide)
  have e2 : abits .u8 (· ^^^ ·) (x.toNat : Int) 1 = (x.toNat : Int) + d := e
  rw [row4_x, if_pos]
  rw [e2]
  have hb : byt ((B4 69 28 64 6 x y p q r).take 20) 10 = (x.toNat : Int) := rfl
  have hf := sumI_flip (l := (B4 69 28 64 6 x y p q r).take 20) (k := 10) (q := 0) (d := d) (by simp [B4]) (by decide) hq (by rw [hb]; exact hd)
  rw [hb] at hf
  have hs : ((B4 69 28 64 6 x y p q r).take 20).set 10 (u8i ((x.toNat : Int) + d)) = (B4 69 28 64 6 (u8i ((x.toNat : Int) + d)) y p q r).take 20 := rfl
  rw [hs] at hf
  unfold chkI at *
  omega
theorem row4_7 {g v p q r : UInt8} {c : Int} (hc : c = chkI ((B4 69 28 g v 0 0 p q r).take 20)) : chkI ((B4 69 28 g v (u8i (c / 256)) (u8i c) p q r).take 20) = 0 := by
  have h0 : 0 < wsum [69, 0, 0, 28, 0, 0, g, 0, 64, v] := by
    have h1 : ((69 : UInt8).toNat : Int) = 69 := by decide
    simp only [wsum, h1]
    omega
  have h := chk_at10 (A := [69, 0, 0, 28, 0, 0, g, 0, 64, v]) (B := [10, p, q, r, 192, 168, 0, 1]) rfl h0
  have e1 : [69, 0, 0, 28, 0, 0, g, 0, 64, v] ++ [0, 0] ++ [10, p, q, r, 192, 168, 0, 1] = (B4 69 28 g v 0 0 p q r).take 20 := rfl
  rw [e1, ← hc] at h
  exact h

end Go.Abs
