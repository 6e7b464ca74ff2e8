/- SegSums' run. -/
import Derived.Test.YtmlenlfhciapfaaSegSumsN
set_option autoImplicit false
set_option maxRecDepth 100000
set_option linter.unusedVariables false
set_option linter.unusedSimpArgs false
namespace Go.Proofs.Ytmlenlfhciapfaa.L
open Go Go.Abs

theorem adW_set {v : Bool} {X : List UInt8} {j : Nat} {y : UInt8} (hj : j < 4) : adW v (X.set j y) = (adW v X).set j y := by
  cases v
  · show List.take 4 (X.set j y) = (List.take 4 X).set j y
    rw [List.take_set]
  · rfl
theorem two_small {q : Nat} (hq : q < 8) : 0 < (2 : Int) ^ q ∧ (2 : Int) ^ q ≤ 128 := by
  have h2 : (2 : Int) ^ q = ((2 ^ q : Nat) : Int) := by simp
  have h3 : 2 ^ q ≤ 2 ^ 7 := Nat.pow_le_pow_right (by omega) (by omega)
  have h4 : 0 < 2 ^ q := Nat.pow_pos (by omega)
  omega
theorem good_src {v u : Bool} {X Y d : List UInt8} {sp dp C : Int} {fl : UInt8} {j q : Nat} (hX : X.length = 16) (hY : Y.length = 16) (hd : d.length ≤ 65000) (hs : 0 ≤ sp ∧ sp < 65536) (g : 0 ≤ dp ∧ dp < 65536) (hC : 0 ≤ C ∧ C < 65536)
    (hz : ¬ (u = true ∧ C = 0)) (hg : (gK v u X Y (segB u sp dp fl 0 d) + C) % 65535 = 0) (hj : j < 4) (hq : q < 8) :
    goodS (prt u) (segB u sp dp fl C d) (.bool v :: bys (X.set j (u8i (abits .u8 (· ^^^ ·) (byt X j) (IntKind.u8.wrap (1 * 2 ^ min q 8)))))) (.bool v :: bys Y) = false := by
  obtain ⟨x, e, hx, h2⟩ := flip_byte (byt_range X j) hq
  rw [e]
  have hl : (X.set j (u8i (byt X j + x))).length = 16 := by simp [hX]
  have k := gK_to (v := v) (u := u) (X := X) (Y := Y) (X' := X.set j (u8i (byt X j + x))) (Y' := Y) (d := d) (fl := fl) hX hY hl hY hs hs g g
  have hj2 : j < (adW v X).length := by rw [adW_len hX]; split <;> omega
  have hb : byt (adW v X) j = byt X j := by
    cases v
    · exact byt_take hj
    · rfl
  have w := wsum_set (adW v X) j (u8i (byt X j + x)) hj2
  rw [← adW_set hj, hb, u8i_toNat] at w
  rw [goodS_segB hl hY hC hd, decide_eq_false hz, Bool.false_or]
  apply decide_eq_false
  have ht := two_small hq
  rw [k]
  split at w <;> omega
theorem good_bit {v u : Bool} {X Y S : List UInt8} {i q : Nat} (hX : X.length = 16) (hY : Y.length = 16) (hi : i < S.length) (hq : q < 8) (hg : sumI S (sumI (pseudoL (prt u) S.length (.bool v :: bys X) (.bool v :: bys Y)) 0) = 65535)
    {S' : List UInt8} (hS : S' = S.set i (u8i (abits .u8 (· ^^^ ·) (byt S i) (IntKind.u8.wrap (1 * 2 ^ min q 8))))) (hn : u = true → ¬ (byt S' 6 = 0 ∧ byt S' 7 = 0)) : goodS (prt u) S' (.bool v :: bys X) (.bool v :: bys Y) = false := by
  by_cases hr : segR (prt u) S' = 0
  case neg => unfold goodS; rw [decide_eq_false (fun h => hr h.1)]; rfl
  obtain ⟨x, e, hx, h2⟩ := flip_byte (byt_range S i) hq
  rw [e] at hS
  have hl : S'.length = S.length := by rw [hS]; simp
  have w := wsum_set S i (u8i (byt S i + x)) hi
  rw [← hS, u8i_toNat] at w
  have ht := two_small hq
  have hps : 0 < sumI (pseudoL (prt u) S.length (.bool v :: bys X) (.bool v :: bys Y)) 0 := by
    obtain ⟨T, hT, eT⟩ := wsum_ps v u S.length hX hY
    have h1 := eT X Y hX hY
    have h3 := wsum_range (adW v X)
    have h4 := wsum_range (adW v Y)
    unfold sumI foldI
    rw [h1, if_neg (by omega)]; omega
  unfold goodS
  rw [hl]
  have hw : ¬ (prt u = 17 ∧ word S' 6 = 0) := by
    rintro ⟨h3, h4⟩
    cases u
    · exact absurd h3 (by decide)
    · refine hn rfl ?_
      have h5 := byt_range S' 6
      have h6 := byt_range S' 7
      have h4' : byt S' 6 * 256 + byt S' 7 = 0 := h4
      omega
  rw [decide_eq_false hw, Bool.false_or]
  generalize sumI (pseudoL (prt u) S.length (.bool v :: bys X) (.bool v :: bys Y)) 0 = s at hps hg
  have wr := wsum_range S
  have wr' := wsum_range S'
  have hne : sumI S' s ≠ 65535 := by
    unfold sumI at hg ⊢
    rw [fold_full (by omega)] at hg
    intro h
    rw [fold_full (by omega)] at h
    split at w <;> omega
  rw [decide_eq_false hne, Bool.and_false]

theorem ssMain (v u : Bool) (n a q w : Int) (d : List UInt8) (hd : d.length ≤ 300) : ∃ h', Runs Try.prog 7 [.int .i64 n, .bool v, .bool u, slB 0 d, .int .i64 a, .int .i64 q, .int .i64 w] [farB d] (.bool true) h' := by
  have hC := bldC_range v u false n 2 d
  have hkp := kport_r n
  have hok := bldC_ok v u false n 2 d
  have wS : adrWf (kSrc v n) = true := by rw [kSrc_B]; exact adrB_wf rfl
  have wK : adrWf (kDst v) = true := by rw [kDst_B]; exact adrB_wf rfl
  have hh : 8 ≤ hdn u ∧ hdn u ≤ 20 := by cases u <;> decide
  obtain ⟨C, hCe⟩ : ∃ C, C = bldC v u false n 2 d := ⟨_, rfl⟩
  have hG : bldG v u false n 2 d = segB u (kport n) 80 2 C d := by rw [hCe]; rfl
  rw [← hCe] at hC hok
  have hOf : ∀ (h : AHeap) (a : AV) (k : Nat), (bOk h a = true ∧ bOf h a = d) → h.length = k → OfR [.agg (keyV v u n), a, .bool false] h (slB k (segB u (kport n) 80 2 C d)) [ownB (segB u (kport n) 80 2 C d)] := fun h a k g hk => by rw [← hG]; exact OfR.mk v u false n d h a k g (by omega) hk
  have hok2 : ¬ (u = true ∧ C = 0) ∧ (gK v u (kSrcB n) kDstB (segB u (kport n) 80 2 0 d) + C) % 65535 = 0 := by
    rcases hok with ⟨_, h2, _⟩ | h
    · simp at h2
    · exact h
  have hg1 : goodS (prt u) (segB u (kport n) 80 2 C d) (kSrc v n) (kDst v) = true := by
    rw [kSrc_B, kDst_B, goodS_segB rfl rfl hC (by omega), decide_eq_true hok2.2, Bool.or_true]
  have hsum : sumI (segB u (kport n) 80 2 C d) (sumI (pseudoL (prt u) (segB u (kport n) 80 2 C d).length (.bool v :: bys (kSrcB n)) (.bool v :: bys kDstB)) 0) = 65535 := by
    have h := hg1
    rw [kSrc_B, kDst_B] at h
    unfold goodS at h
    simp only [Bool.and_eq_true, Bool.or_eq_true, decide_eq_true_eq] at h
    rcases h.2 with h3 | h3
    · have hcs : u = true ∧ C = 0 := by
        cases u
        · exact absurd h3.1 (by decide)
        · have := segB_sum (u := true) (sp := kport n) (dp := 80) (fl := 2) (d := d) hC
          exact ⟨rfl, this.symm.trans h3.2⟩
      exact absurd hcs hok2.1
    · exact h3
  have hq8 : (q % 8).toNat < 8 := by omega
  have hsrc : ∀ j, j < 4 → goodS (prt u) (segB u (kport n) 80 2 C d) (.bool v :: bys ((kSrcB n).set j (u8i (abits .u8 (· ^^^ ·) (byt (kSrcB n) j) (IntKind.u8.wrap (1 * 2 ^ min (q % 8).toNat 8)))))) (kDst v) = false := fun j hj => by
    rw [kDst_B]; exact good_src rfl rfl (by omega) hkp (by omega) hC hok2.1 hok2.2 hj hq8
  have l0 := segB_length u (kport n) 80 2 C d
  generalize hgS : segB u (kport n) 80 2 C d = S at *
  obtain ⟨i, hie⟩ : ∃ i : Nat, a % (((0 + S.length) : Nat) : Int) = i := ⟨(a % (((0 + S.length) : Nat) : Int)).toNat, by
    have := Int.emod_nonneg a (show (((0 + S.length) : Nat) : Int) ≠ 0 by omega); omega⟩
  have hil : i < S.length := by have := Int.emod_lt_of_pos a (show 0 < (((0 + S.length) : Nat) : Int) by omega); omega
  obtain ⟨S', hSe⟩ : ∃ S', S' = S.set i (u8i (abits .u8 (· ^^^ ·) (byt S i) (IntKind.u8.wrap (1 * 2 ^ min (q % 8).toNat 8)))) := ⟨_, rfl⟩
  have hS'l : S'.length = S.length := by rw [hSe]; simp
  have hW : 0 ≤ abits .u8 (· ^^^ ·) (byt S i) (IntKind.u8.wrap (1 * 2 ^ min (q % 8).toNat 8)) ∧ abits .u8 (· ^^^ ·) (byt S i) (IntKind.u8.wrap (1 * 2 ^ min (q % 8).toNat 8)) < 256 := by
    obtain ⟨x, e, hx, _⟩ := flip_byte (byt_range S i) hq8
    rw [e]; exact hx
  have hcell : putCells (List.take (S.length * 1) (bys S)) (0 + (a % (((0 + S.length) : Nat) : Int)).toNat * 1) [b8 (abits IntKind.u8 (· ^^^ ·) (intV (List.take (S.length * 1) (bys S))[0 + (a % (((0 + S.length) : Nat) : Int)).toNat * 1]?) (IntKind.u8.wrap (1 * 2 ^ min (q % 8).toNat 8)))] = bys S' := by
    rw [hie, show 0 + ((i : Nat) : Int).toNat * 1 = i by omega, bys_full, bys_get, intV_byte, hSe]
    exact putCells_byte' _ _ _ hW
  have hbit : (u = true → ¬ (byt S' 6 = 0 ∧ byt S' 7 = 0)) → goodS (prt u) S' (kSrc v n) (kDst v) = false := fun hn => by
    rw [kSrc_B, kDst_B]; exact good_bit rfl rfl hil hq8 hsum hSe hn
  have hw4 : w % 4 = 0 ∨ w % 4 = 1 ∨ w % 4 = 2 ∨ w % 4 = 3 := by omega
  have hxw : ∀ x : Int, 0 ≤ x ∧ x < 256 → 0 ≤ abits .u8 (· ^^^ ·) x (IntKind.u8.wrap (1 * 2 ^ min (q % 8).toNat 8)) ∧ abits .u8 (· ^^^ ·) x (IntKind.u8.wrap (1 * 2 ^ min (q % 8).toNat 8)) < 256 := fun x hx => by
    obtain ⟨y, e, hy, _⟩ := flip_byte hx hq8
    rw [e]; exact hy
  have h1r := kb1_range n
  have h2r := kb2_range n
  have h3r := kb3_range n
  have hx0 : [AV.bool v, b8 (abits IntKind.u8 (· ^^^ ·) (intV (some (b8 10))) (IntKind.u8.wrap (1 * 2 ^ min (q % 8).toNat 8))), b8 (kb1 n), b8 (kb2 n), b8 (kb3 n), b8 0, b8 0, b8 0, b8 0, b8 0, b8 0, b8 0, b8 0, b8 0, b8 0, b8 0, b8 0] = .bool v :: bys ((kSrcB n).set 0 (u8i (abits .u8 (· ^^^ ·) (byt (kSrcB n) 0) (IntKind.u8.wrap (1 * 2 ^ min (q % 8).toNat 8))))) := by
    have hb : byt (kSrcB n) 0 = (10 : Int) := by show ((10 : UInt8).toNat : Int) = 10; decide
    rw [hb]
    simp only [kSrcB, bys, List.set, List.map, u8i_val (hxw (10 : Int) (by omega)), u8i_val h1r, u8i_val h2r, u8i_val h3r]
    rfl
  have hx1 : [AV.bool v, b8 10, b8 (abits IntKind.u8 (· ^^^ ·) (intV (some (b8 (kb1 n)))) (IntKind.u8.wrap (1 * 2 ^ min (q % 8).toNat 8))), b8 (kb2 n), b8 (kb3 n), b8 0, b8 0, b8 0, b8 0, b8 0, b8 0, b8 0, b8 0, b8 0, b8 0, b8 0, b8 0] = .bool v :: bys ((kSrcB n).set 1 (u8i (abits .u8 (· ^^^ ·) (byt (kSrcB n) 1) (IntKind.u8.wrap (1 * 2 ^ min (q % 8).toNat 8))))) := by
    have hb : byt (kSrcB n) 1 = (kb1 n) := u8i_val (kb1_range n)
    rw [hb]
    simp only [kSrcB, bys, List.set, List.map, u8i_val (hxw (kb1 n) (by omega)), u8i_val h1r, u8i_val h2r, u8i_val h3r]
    rfl
  have hx2 : [AV.bool v, b8 10, b8 (kb1 n), b8 (abits IntKind.u8 (· ^^^ ·) (intV (some (b8 (kb2 n)))) (IntKind.u8.wrap (1 * 2 ^ min (q % 8).toNat 8))), b8 (kb3 n), b8 0, b8 0, b8 0, b8 0, b8 0, b8 0, b8 0, b8 0, b8 0, b8 0, b8 0, b8 0] = .bool v :: bys ((kSrcB n).set 2 (u8i (abits .u8 (· ^^^ ·) (byt (kSrcB n) 2) (IntKind.u8.wrap (1 * 2 ^ min (q % 8).toNat 8))))) := by
    have hb : byt (kSrcB n) 2 = (kb2 n) := u8i_val (kb2_range n)
    rw [hb]
    simp only [kSrcB, bys, List.set, List.map, u8i_val (hxw (kb2 n) (by omega)), u8i_val h1r, u8i_val h2r, u8i_val h3r]
    rfl
  have hx3 : [AV.bool v, b8 10, b8 (kb1 n), b8 (kb2 n), b8 (abits IntKind.u8 (· ^^^ ·) (intV (some (b8 (kb3 n)))) (IntKind.u8.wrap (1 * 2 ^ min (q % 8).toNat 8))), b8 0, b8 0, b8 0, b8 0, b8 0, b8 0, b8 0, b8 0, b8 0, b8 0, b8 0, b8 0] = .bool v :: bys ((kSrcB n).set 3 (u8i (abits .u8 (· ^^^ ·) (byt (kSrcB n) 3) (IntKind.u8.wrap (1 * 2 ^ min (q % 8).toNat 8))))) := by
    have hb : byt (kSrcB n) 3 = (kb3 n) := u8i_val (kb3_range n)
    rw [hb]
    simp only [kSrcB, bys, List.set, List.map, u8i_val (hxw (kb3 n) (by omega)), u8i_val h1r, u8i_val h2r, u8i_val h3r]
    rfl
  cases u
  · have hh' : hdn false = 20 := rfl
    rcases hw4 with hw | hw | hw | hw
    · refine Runs.valT0 (tSSOk S) (F := 100) (n := 4) (pr := [(23, .bool false), (34, .bool false), (49, .int .i64 0)]) ?_
      refine (nfSegSumsT0 v n a q w d S _).trans ?_
      refine (if_pos (decide_eq_false (by omega))).trans ?_
      refine (if_pos (cdec_true.2 (hOf _ _ _ (bOk_row rfl rfl rfl) rfl))).trans ?_
      refine (if_pos (decide_eq_false (by omega))).trans ?_
      refine (if_pos (cdec_true.2 (sayGoodS (cs := kSrc v n) (ds := kDst v) (l := S) (bOk_row rfl rfl rfl) wS wK (by simp <;> omega) (by decide) hg1))).trans ?_
      refine (if_pos (⟨rfl, hw⟩)).trans ?_
      refine (if_neg (by omega)).trans ?_
      iterate 3 (refine (if_pos (by first | exact True.intro | rfl | omega | (simp; done) | (simp; omega) | (simp [capOf]; done) | (simp [capOf]; omega))).trans ?_)
      refine (if_pos (decide_eq_true (by omega))).trans ?_
      refine (if_pos (by rw [hie]; omega)).trans ?_
      refine (if_pos (by rw [hie]; simp; omega)).trans ?_
      refine (if_neg (by omega)).trans ?_
      refine (if_pos (by rw [hie]; omega)).trans ?_
      iterate 2 (refine (if_pos (by rw [hie]; simp; omega)).trans ?_)
      refine (if_pos (AV.beq_self _)).trans ?_
      refine (if_pos (cdec_true.2 (sayGoodS (cs := [AV.bool v, b8 (abits IntKind.u8 (· ^^^ ·) (intV (some (b8 10))) (IntKind.u8.wrap (1 * 2 ^ min (q % 8).toNat 8))), b8 (kb1 n), b8 (kb2 n), b8 (kb3 n), b8 0, b8 0, b8 0, b8 0, b8 0, b8 0, b8 0, b8 0, b8 0, b8 0, b8 0, b8 0]) (ds := kDst v) (l := S) (bOk_row rfl rfl rfl) (by rw [hx0]; exact adrB_wf (by simp [kSrcB])) wK (by simp <;> omega) (by decide) (by rw [hx0]; exact hsrc 0 (by decide))))).trans ?_
      refine (if_pos (cdec_true.2 (sayGoodS (cs := kSrc v n) (ds := kDst v) (l := S') (bOk_row rfl hcell (by omega)) wS wK (by simp <;> omega) (by decide) (hbit (by intro h; simp at h))))).trans ?_
      rfl
    · refine Runs.valT0 (tSSOk S) (F := 100) (n := 4) (pr := [(23, .bool false), (34, .bool false), (49, .int .i64 1)]) ?_
      refine (nfSegSumsT1 v n a q w d S _).trans ?_
      refine (if_pos (decide_eq_false (by omega))).trans ?_
      refine (if_pos (cdec_true.2 (hOf _ _ _ (bOk_row rfl rfl rfl) rfl))).trans ?_
      refine (if_pos (decide_eq_false (by omega))).trans ?_
      refine (if_pos (cdec_true.2 (sayGoodS (cs := kSrc v n) (ds := kDst v) (l := S) (bOk_row rfl rfl rfl) wS wK (by simp <;> omega) (by decide) hg1))).trans ?_
      refine (if_pos (⟨rfl, hw⟩)).trans ?_
      refine (if_neg (by omega)).trans ?_
      refine (if_pos (AV.beq_self _)).trans ?_
      iterate 3 (refine (if_pos (by first | exact True.intro | rfl | omega | (simp; done) | (simp; omega) | (simp [capOf]; done) | (simp [capOf]; omega))).trans ?_)
      refine (if_pos (decide_eq_true (by omega))).trans ?_
      refine (if_pos (by rw [hie]; omega)).trans ?_
      refine (if_pos (by rw [hie]; simp; omega)).trans ?_
      refine (if_neg (by omega)).trans ?_
      refine (if_pos (by rw [hie]; omega)).trans ?_
      iterate 2 (refine (if_pos (by rw [hie]; simp; omega)).trans ?_)
      refine (if_pos (AV.beq_self _)).trans ?_
      refine (if_pos (cdec_true.2 (sayGoodS (cs := [AV.bool v, b8 10, b8 (abits IntKind.u8 (· ^^^ ·) (intV (some (b8 (kb1 n)))) (IntKind.u8.wrap (1 * 2 ^ min (q % 8).toNat 8))), b8 (kb2 n), b8 (kb3 n), b8 0, b8 0, b8 0, b8 0, b8 0, b8 0, b8 0, b8 0, b8 0, b8 0, b8 0, b8 0]) (ds := kDst v) (l := S) (bOk_row rfl rfl rfl) (by rw [hx1]; exact adrB_wf (by simp [kSrcB])) wK (by simp <;> omega) (by decide) (by rw [hx1]; exact hsrc 1 (by decide))))).trans ?_
      refine (if_pos (cdec_true.2 (sayGoodS (cs := kSrc v n) (ds := kDst v) (l := S') (bOk_row rfl hcell (by omega)) wS wK (by simp <;> omega) (by decide) (hbit (by intro h; simp at h))))).trans ?_
      rfl
    · refine Runs.valT0 (tSSOk S) (F := 100) (n := 4) (pr := [(23, .bool false), (34, .bool false), (49, .int .i64 2)]) ?_
      refine (nfSegSumsT2 v n a q w d S _).trans ?_
      refine (if_pos (decide_eq_false (by omega))).trans ?_
      refine (if_pos (cdec_true.2 (hOf _ _ _ (bOk_row rfl rfl rfl) rfl))).trans ?_
      refine (if_pos (decide_eq_false (by omega))).trans ?_
      refine (if_pos (cdec_true.2 (sayGoodS (cs := kSrc v n) (ds := kDst v) (l := S) (bOk_row rfl rfl rfl) wS wK (by simp <;> omega) (by decide) hg1))).trans ?_
      refine (if_pos (⟨rfl, hw⟩)).trans ?_
      refine (if_neg (by omega)).trans ?_
      refine (if_pos (AV.beq_self _)).trans ?_
      iterate 3 (refine (if_pos (by first | exact True.intro | rfl | omega | (simp; done) | (simp; omega) | (simp [capOf]; done) | (simp [capOf]; omega))).trans ?_)
      refine (if_pos (decide_eq_true (by omega))).trans ?_
      refine (if_pos (by rw [hie]; omega)).trans ?_
      refine (if_pos (by rw [hie]; simp; omega)).trans ?_
      refine (if_neg (by omega)).trans ?_
      refine (if_pos (by rw [hie]; omega)).trans ?_
      iterate 2 (refine (if_pos (by rw [hie]; simp; omega)).trans ?_)
      refine (if_pos (AV.beq_self _)).trans ?_
      refine (if_pos (cdec_true.2 (sayGoodS (cs := [AV.bool v, b8 10, b8 (kb1 n), b8 (abits IntKind.u8 (· ^^^ ·) (intV (some (b8 (kb2 n)))) (IntKind.u8.wrap (1 * 2 ^ min (q % 8).toNat 8))), b8 (kb3 n), b8 0, b8 0, b8 0, b8 0, b8 0, b8 0, b8 0, b8 0, b8 0, b8 0, b8 0, b8 0]) (ds := kDst v) (l := S) (bOk_row rfl rfl rfl) (by rw [hx2]; exact adrB_wf (by simp [kSrcB])) wK (by simp <;> omega) (by decide) (by rw [hx2]; exact hsrc 2 (by decide))))).trans ?_
      refine (if_pos (cdec_true.2 (sayGoodS (cs := kSrc v n) (ds := kDst v) (l := S') (bOk_row rfl hcell (by omega)) wS wK (by simp <;> omega) (by decide) (hbit (by intro h; simp at h))))).trans ?_
      rfl
    · refine Runs.valT0 (tSSOk S) (F := 100) (n := 4) (pr := [(23, .bool false), (34, .bool false), (49, .int .i64 3)]) ?_
      refine (nfSegSumsT3 v n a q w d S _).trans ?_
      refine (if_pos (decide_eq_false (by omega))).trans ?_
      refine (if_pos (cdec_true.2 (hOf _ _ _ (bOk_row rfl rfl rfl) rfl))).trans ?_
      refine (if_pos (decide_eq_false (by omega))).trans ?_
      refine (if_pos (cdec_true.2 (sayGoodS (cs := kSrc v n) (ds := kDst v) (l := S) (bOk_row rfl rfl rfl) wS wK (by simp <;> omega) (by decide) hg1))).trans ?_
      refine (if_pos (⟨rfl, hw⟩)).trans ?_
      refine (if_neg (by omega)).trans ?_
      refine (if_pos (AV.beq_self _)).trans ?_
      iterate 3 (refine (if_pos (by first | exact True.intro | rfl | omega | (simp; done) | (simp; omega) | (simp [capOf]; done) | (simp [capOf]; omega))).trans ?_)
      refine (if_pos (decide_eq_true (by omega))).trans ?_
      refine (if_pos (by rw [hie]; omega)).trans ?_
      refine (if_pos (by rw [hie]; simp; omega)).trans ?_
      refine (if_neg (by omega)).trans ?_
      refine (if_pos (by rw [hie]; omega)).trans ?_
      iterate 2 (refine (if_pos (by rw [hie]; simp; omega)).trans ?_)
      refine (if_pos (AV.beq_self _)).trans ?_
      refine (if_pos (cdec_true.2 (sayGoodS (cs := [AV.bool v, b8 10, b8 (kb1 n), b8 (kb2 n), b8 (abits IntKind.u8 (· ^^^ ·) (intV (some (b8 (kb3 n)))) (IntKind.u8.wrap (1 * 2 ^ min (q % 8).toNat 8))), b8 0, b8 0, b8 0, b8 0, b8 0, b8 0, b8 0, b8 0, b8 0, b8 0, b8 0, b8 0]) (ds := kDst v) (l := S) (bOk_row rfl rfl rfl) (by rw [hx3]; exact adrB_wf (by simp [kSrcB])) wK (by simp <;> omega) (by decide) (by rw [hx3]; exact hsrc 3 (by decide))))).trans ?_
      refine (if_pos (cdec_true.2 (sayGoodS (cs := kSrc v n) (ds := kDst v) (l := S') (bOk_row rfl hcell (by omega)) wS wK (by simp <;> omega) (by decide) (hbit (by intro h; simp at h))))).trans ?_
      rfl
  · have hh' : hdn true = 8 := rfl
    rcases hw4 with hw | hw | hw | hw
    · by_cases h6 : byt S' 6 = 0
      · by_cases h7 : byt S' 7 = 0
        · refine Runs.valT0 (tSSOk S) (F := 100) (n := 4) (pr := [(23, .bool false), (34, .bool false), (49, .int .i64 0), (80, .bool true), (86, .bool true)]) ?_
          refine (nfSegSumsC0 v n a q w d S _).trans ?_
          refine (if_pos (decide_eq_false (by omega))).trans ?_
          refine (if_pos (cdec_true.2 (hOf _ _ _ (bOk_row rfl rfl rfl) rfl))).trans ?_
          refine (if_pos (decide_eq_false (by omega))).trans ?_
          refine (if_pos (cdec_true.2 (sayGoodS (cs := kSrc v n) (ds := kDst v) (l := S) (bOk_row rfl rfl rfl) wS wK (by simp <;> omega) (by decide) hg1))).trans ?_
          refine (if_pos (⟨rfl, hw⟩)).trans ?_
          refine (if_neg (by omega)).trans ?_
          iterate 3 (refine (if_pos (by first | exact True.intro | rfl | omega | (simp; done) | (simp; omega) | (simp [capOf]; done) | (simp [capOf]; omega))).trans ?_)
          refine (if_pos (decide_eq_true (by omega))).trans ?_
          refine (if_pos (by rw [hie]; omega)).trans ?_
          refine (if_pos (by rw [hie]; simp; omega)).trans ?_
          refine (if_neg (by omega)).trans ?_
          refine (if_pos (by rw [hie]; omega)).trans ?_
          iterate 2 (refine (if_pos (by rw [hie]; simp; omega)).trans ?_)
          refine (if_pos (AV.beq_self _)).trans ?_
          refine (if_pos (by first | exact True.intro | rfl | omega | (simp; done) | (simp; omega) | (simp [capOf]; done) | (simp [capOf]; omega))).trans ?_
          refine (if_pos (by rw [hcell]; simp; omega)).trans ?_
          refine (if_pos (by rw [hcell]; simp [h6])).trans ?_
          refine (if_pos (by first | exact True.intro | rfl | omega | (simp; done) | (simp; omega) | (simp [capOf]; done) | (simp [capOf]; omega))).trans ?_
          refine (if_pos (by rw [hcell]; simp; omega)).trans ?_
          refine (if_pos (by rw [hcell]; simp [h7])).trans ?_
          refine (if_pos (cdec_true.2 (sayGoodS (cs := [AV.bool v, b8 (abits IntKind.u8 (· ^^^ ·) (intV (some (b8 10))) (IntKind.u8.wrap (1 * 2 ^ min (q % 8).toNat 8))), b8 (kb1 n), b8 (kb2 n), b8 (kb3 n), b8 0, b8 0, b8 0, b8 0, b8 0, b8 0, b8 0, b8 0, b8 0, b8 0, b8 0, b8 0]) (ds := kDst v) (l := S) (bOk_row rfl rfl rfl) (by rw [hx0]; exact adrB_wf (by simp [kSrcB])) wK (by simp <;> omega) (by decide) (by rw [hx0]; exact hsrc 0 (by decide))))).trans ?_
          rfl
        · refine Runs.valT0 (tSSOk S) (F := 100) (n := 4) (pr := [(23, .bool false), (34, .bool false), (49, .int .i64 0), (80, .bool true), (86, .bool false)]) ?_
          refine (nfSegSumsB0 v n a q w d S _).trans ?_
          refine (if_pos (decide_eq_false (by omega))).trans ?_
          refine (if_pos (cdec_true.2 (hOf _ _ _ (bOk_row rfl rfl rfl) rfl))).trans ?_
          refine (if_pos (decide_eq_false (by omega))).trans ?_
          refine (if_pos (cdec_true.2 (sayGoodS (cs := kSrc v n) (ds := kDst v) (l := S) (bOk_row rfl rfl rfl) wS wK (by simp <;> omega) (by decide) hg1))).trans ?_
          refine (if_pos (⟨rfl, hw⟩)).trans ?_
          refine (if_neg (by omega)).trans ?_
          iterate 3 (refine (if_pos (by first | exact True.intro | rfl | omega | (simp; done) | (simp; omega) | (simp [capOf]; done) | (simp [capOf]; omega))).trans ?_)
          refine (if_pos (decide_eq_true (by omega))).trans ?_
          refine (if_pos (by rw [hie]; omega)).trans ?_
          refine (if_pos (by rw [hie]; simp; omega)).trans ?_
          refine (if_neg (by omega)).trans ?_
          refine (if_pos (by rw [hie]; omega)).trans ?_
          iterate 2 (refine (if_pos (by rw [hie]; simp; omega)).trans ?_)
          refine (if_pos (AV.beq_self _)).trans ?_
          refine (if_pos (by first | exact True.intro | rfl | omega | (simp; done) | (simp; omega) | (simp [capOf]; done) | (simp [capOf]; omega))).trans ?_
          refine (if_pos (by rw [hcell]; simp; omega)).trans ?_
          refine (if_pos (by rw [hcell]; simp [h6])).trans ?_
          refine (if_pos (by first | exact True.intro | rfl | omega | (simp; done) | (simp; omega) | (simp [capOf]; done) | (simp [capOf]; omega))).trans ?_
          refine (if_pos (by rw [hcell]; simp; omega)).trans ?_
          refine (if_pos (by rw [hcell]; simp [h7])).trans ?_
          refine (if_pos (cdec_true.2 (sayGoodS (cs := [AV.bool v, b8 (abits IntKind.u8 (· ^^^ ·) (intV (some (b8 10))) (IntKind.u8.wrap (1 * 2 ^ min (q % 8).toNat 8))), b8 (kb1 n), b8 (kb2 n), b8 (kb3 n), b8 0, b8 0, b8 0, b8 0, b8 0, b8 0, b8 0, b8 0, b8 0, b8 0, b8 0, b8 0]) (ds := kDst v) (l := S) (bOk_row rfl rfl rfl) (by rw [hx0]; exact adrB_wf (by simp [kSrcB])) wK (by simp <;> omega) (by decide) (by rw [hx0]; exact hsrc 0 (by decide))))).trans ?_
          refine (if_pos (cdec_true.2 (sayGoodS (cs := kSrc v n) (ds := kDst v) (l := S') (bOk_row rfl hcell (by omega)) wS wK (by simp <;> omega) (by decide) (hbit (by intro _ h; exact h7 h.2))))).trans ?_
          rfl
      · refine Runs.valT0 (tSSOk S) (F := 100) (n := 4) (pr := [(23, .bool false), (34, .bool false), (49, .int .i64 0), (80, .bool false)]) ?_
        refine (nfSegSumsA0 v n a q w d S _).trans ?_
        refine (if_pos (decide_eq_false (by omega))).trans ?_
        refine (if_pos (cdec_true.2 (hOf _ _ _ (bOk_row rfl rfl rfl) rfl))).trans ?_
        refine (if_pos (decide_eq_false (by omega))).trans ?_
        refine (if_pos (cdec_true.2 (sayGoodS (cs := kSrc v n) (ds := kDst v) (l := S) (bOk_row rfl rfl rfl) wS wK (by simp <;> omega) (by decide) hg1))).trans ?_
        refine (if_pos (⟨rfl, hw⟩)).trans ?_
        refine (if_neg (by omega)).trans ?_
        iterate 3 (refine (if_pos (by first | exact True.intro | rfl | omega | (simp; done) | (simp; omega) | (simp [capOf]; done) | (simp [capOf]; omega))).trans ?_)
        refine (if_pos (decide_eq_true (by omega))).trans ?_
        refine (if_pos (by rw [hie]; omega)).trans ?_
        refine (if_pos (by rw [hie]; simp; omega)).trans ?_
        refine (if_neg (by omega)).trans ?_
        refine (if_pos (by rw [hie]; omega)).trans ?_
        iterate 2 (refine (if_pos (by rw [hie]; simp; omega)).trans ?_)
        refine (if_pos (AV.beq_self _)).trans ?_
        refine (if_pos (by first | exact True.intro | rfl | omega | (simp; done) | (simp; omega) | (simp [capOf]; done) | (simp [capOf]; omega))).trans ?_
        refine (if_pos (by rw [hcell]; simp; omega)).trans ?_
        refine (if_pos (by rw [hcell]; simp [h6])).trans ?_
        refine (if_pos (cdec_true.2 (sayGoodS (cs := [AV.bool v, b8 (abits IntKind.u8 (· ^^^ ·) (intV (some (b8 10))) (IntKind.u8.wrap (1 * 2 ^ min (q % 8).toNat 8))), b8 (kb1 n), b8 (kb2 n), b8 (kb3 n), b8 0, b8 0, b8 0, b8 0, b8 0, b8 0, b8 0, b8 0, b8 0, b8 0, b8 0, b8 0]) (ds := kDst v) (l := S) (bOk_row rfl rfl rfl) (by rw [hx0]; exact adrB_wf (by simp [kSrcB])) wK (by simp <;> omega) (by decide) (by rw [hx0]; exact hsrc 0 (by decide))))).trans ?_
        refine (if_pos (cdec_true.2 (sayGoodS (cs := kSrc v n) (ds := kDst v) (l := S') (bOk_row rfl hcell (by omega)) wS wK (by simp <;> omega) (by decide) (hbit (by intro _ h; exact h6 h.1))))).trans ?_
        rfl
    · by_cases h6 : byt S' 6 = 0
      · by_cases h7 : byt S' 7 = 0
        · refine Runs.valT0 (tSSOk S) (F := 100) (n := 4) (pr := [(23, .bool false), (34, .bool false), (49, .int .i64 1), (80, .bool true), (86, .bool true)]) ?_
          refine (nfSegSumsC1 v n a q w d S _).trans ?_
          refine (if_pos (decide_eq_false (by omega))).trans ?_
          refine (if_pos (cdec_true.2 (hOf _ _ _ (bOk_row rfl rfl rfl) rfl))).trans ?_
          refine (if_pos (decide_eq_false (by omega))).trans ?_
          refine (if_pos (cdec_true.2 (sayGoodS (cs := kSrc v n) (ds := kDst v) (l := S) (bOk_row rfl rfl rfl) wS wK (by simp <;> omega) (by decide) hg1))).trans ?_
          refine (if_pos (⟨rfl, hw⟩)).trans ?_
          refine (if_neg (by omega)).trans ?_
          refine (if_pos (AV.beq_self _)).trans ?_
          iterate 3 (refine (if_pos (by first | exact True.intro | rfl | omega | (simp; done) | (simp; omega) | (simp [capOf]; done) | (simp [capOf]; omega))).trans ?_)
          refine (if_pos (decide_eq_true (by omega))).trans ?_
          refine (if_pos (by rw [hie]; omega)).trans ?_
          refine (if_pos (by rw [hie]; simp; omega)).trans ?_
          refine (if_neg (by omega)).trans ?_
          refine (if_pos (by rw [hie]; omega)).trans ?_
          iterate 2 (refine (if_pos (by rw [hie]; simp; omega)).trans ?_)
          refine (if_pos (AV.beq_self _)).trans ?_
          refine (if_pos (by first | exact True.intro | rfl | omega | (simp; done) | (simp; omega) | (simp [capOf]; done) | (simp [capOf]; omega))).trans ?_
          refine (if_pos (by rw [hcell]; simp; omega)).trans ?_
          refine (if_pos (by rw [hcell]; simp [h6])).trans ?_
          refine (if_pos (by first | exact True.intro | rfl | omega | (simp; done) | (simp; omega) | (simp [capOf]; done) | (simp [capOf]; omega))).trans ?_
          refine (if_pos (by rw [hcell]; simp; omega)).trans ?_
          refine (if_pos (by rw [hcell]; simp [h7])).trans ?_
          refine (if_pos (cdec_true.2 (sayGoodS (cs := [AV.bool v, b8 10, b8 (abits IntKind.u8 (· ^^^ ·) (intV (some (b8 (kb1 n)))) (IntKind.u8.wrap (1 * 2 ^ min (q % 8).toNat 8))), b8 (kb2 n), b8 (kb3 n), b8 0, b8 0, b8 0, b8 0, b8 0, b8 0, b8 0, b8 0, b8 0, b8 0, b8 0, b8 0]) (ds := kDst v) (l := S) (bOk_row rfl rfl rfl) (by rw [hx1]; exact adrB_wf (by simp [kSrcB])) wK (by simp <;> omega) (by decide) (by rw [hx1]; exact hsrc 1 (by decide))))).trans ?_
          rfl
        · refine Runs.valT0 (tSSOk S) (F := 100) (n := 4) (pr := [(23, .bool false), (34, .bool false), (49, .int .i64 1), (80, .bool true), (86, .bool false)]) ?_
          refine (nfSegSumsB1 v n a q w d S _).trans ?_
          refine (if_pos (decide_eq_false (by omega))).trans ?_
          refine (if_pos (cdec_true.2 (hOf _ _ _ (bOk_row rfl rfl rfl) rfl))).trans ?_
          refine (if_pos (decide_eq_false (by omega))).trans ?_
          refine (if_pos (cdec_true.2 (sayGoodS (cs := kSrc v n) (ds := kDst v) (l := S) (bOk_row rfl rfl rfl) wS wK (by simp <;> omega) (by decide) hg1))).trans ?_
          refine (if_pos (⟨rfl, hw⟩)).trans ?_
          refine (if_neg (by omega)).trans ?_
          refine (if_pos (AV.beq_self _)).trans ?_
          iterate 3 (refine (if_pos (by first | exact True.intro | rfl | omega | (simp; done) | (simp; omega) | (simp [capOf]; done) | (simp [capOf]; omega))).trans ?_)
          refine (if_pos (decide_eq_true (by omega))).trans ?_
          refine (if_pos (by rw [hie]; omega)).trans ?_
          refine (if_pos (by rw [hie]; simp; omega)).trans ?_
          refine (if_neg (by omega)).trans ?_
          refine (if_pos (by rw [hie]; omega)).trans ?_
          iterate 2 (refine (if_pos (by rw [hie]; simp; omega)).trans ?_)
          refine (if_pos (AV.beq_self _)).trans ?_
          refine (if_pos (by first | exact True.intro | rfl | omega | (simp; done) | (simp; omega) | (simp [capOf]; done) | (simp [capOf]; omega))).trans ?_
          refine (if_pos (by rw [hcell]; simp; omega)).trans ?_
          refine (if_pos (by rw [hcell]; simp [h6])).trans ?_
          refine (if_pos (by first | exact True.intro | rfl | omega | (simp; done) | (simp; omega) | (simp [capOf]; done) | (simp [capOf]; omega))).trans ?_
          refine (if_pos (by rw [hcell]; simp; omega)).trans ?_
          refine (if_pos (by rw [hcell]; simp [h7])).trans ?_
          refine (if_pos (cdec_true.2 (sayGoodS (cs := [AV.bool v, b8 10, b8 (abits IntKind.u8 (· ^^^ ·) (intV (some (b8 (kb1 n)))) (IntKind.u8.wrap (1 * 2 ^ min (q % 8).toNat 8))), b8 (kb2 n), b8 (kb3 n), b8 0, b8 0, b8 0, b8 0, b8 0, b8 0, b8 0, b8 0, b8 0, b8 0, b8 0, b8 0]) (ds := kDst v) (l := S) (bOk_row rfl rfl rfl) (by rw [hx1]; exact adrB_wf (by simp [kSrcB])) wK (by simp <;> omega) (by decide) (by rw [hx1]; exact hsrc 1 (by decide))))).trans ?_
          refine (if_pos (cdec_true.2 (sayGoodS (cs := kSrc v n) (ds := kDst v) (l := S') (bOk_row rfl hcell (by omega)) wS wK (by simp <;> omega) (by decide) (hbit (by intro _ h; exact h7 h.2))))).trans ?_
          rfl
      · refine Runs.valT0 (tSSOk S) (F := 100) (n := 4) (pr := [(23, .bool false), (34, .bool false), (49, .int .i64 1), (80, .bool false)]) ?_
        refine (nfSegSumsA1 v n a q w d S _).trans ?_
        refine (if_pos (decide_eq_false (by omega))).trans ?_
        refine (if_pos (cdec_true.2 (hOf _ _ _ (bOk_row rfl rfl rfl) rfl))).trans ?_
        refine (if_pos (decide_eq_false (by omega))).trans ?_
        refine (if_pos (cdec_true.2 (sayGoodS (cs := kSrc v n) (ds := kDst v) (l := S) (bOk_row rfl rfl rfl) wS wK (by simp <;> omega) (by decide) hg1))).trans ?_
        refine (if_pos (⟨rfl, hw⟩)).trans ?_
        refine (if_neg (by omega)).trans ?_
        refine (if_pos (AV.beq_self _)).trans ?_
        iterate 3 (refine (if_pos (by first | exact True.intro | rfl | omega | (simp; done) | (simp; omega) | (simp [capOf]; done) | (simp [capOf]; omega))).trans ?_)
        refine (if_pos (decide_eq_true (by omega))).trans ?_
        refine (if_pos (by rw [hie]; omega)).trans ?_
        refine (if_pos (by rw [hie]; simp; omega)).trans ?_
        refine (if_neg (by omega)).trans ?_
        refine (if_pos (by rw [hie]; omega)).trans ?_
        iterate 2 (refine (if_pos (by rw [hie]; simp; omega)).trans ?_)
        refine (if_pos (AV.beq_self _)).trans ?_
        refine (if_pos (by first | exact True.intro | rfl | omega | (simp; done) | (simp; omega) | (simp [capOf]; done) | (simp [capOf]; omega))).trans ?_
        refine (if_pos (by rw [hcell]; simp; omega)).trans ?_
        refine (if_pos (by rw [hcell]; simp [h6])).trans ?_
        refine (if_pos (cdec_true.2 (sayGoodS (cs := [AV.bool v, b8 10, b8 (abits IntKind.u8 (· ^^^ ·) (intV (some (b8 (kb1 n)))) (IntKind.u8.wrap (1 * 2 ^ min (q % 8).toNat 8))), b8 (kb2 n), b8 (kb3 n), b8 0, b8 0, b8 0, b8 0, b8 0, b8 0, b8 0, b8 0, b8 0, b8 0, b8 0, b8 0]) (ds := kDst v) (l := S) (bOk_row rfl rfl rfl) (by rw [hx1]; exact adrB_wf (by simp [kSrcB])) wK (by simp <;> omega) (by decide) (by rw [hx1]; exact hsrc 1 (by decide))))).trans ?_
        refine (if_pos (cdec_true.2 (sayGoodS (cs := kSrc v n) (ds := kDst v) (l := S') (bOk_row rfl hcell (by omega)) wS wK (by simp <;> omega) (by decide) (hbit (by intro _ h; exact h6 h.1))))).trans ?_
        rfl
    · by_cases h6 : byt S' 6 = 0
      · by_cases h7 : byt S' 7 = 0
        · refine Runs.valT0 (tSSOk S) (F := 100) (n := 4) (pr := [(23, .bool false), (34, .bool false), (49, .int .i64 2), (80, .bool true), (86, .bool true)]) ?_
          refine (nfSegSumsC2 v n a q w d S _).trans ?_
          refine (if_pos (decide_eq_false (by omega))).trans ?_
          refine (if_pos (cdec_true.2 (hOf _ _ _ (bOk_row rfl rfl rfl) rfl))).trans ?_
          refine (if_pos (decide_eq_false (by omega))).trans ?_
          refine (if_pos (cdec_true.2 (sayGoodS (cs := kSrc v n) (ds := kDst v) (l := S) (bOk_row rfl rfl rfl) wS wK (by simp <;> omega) (by decide) hg1))).trans ?_
          refine (if_pos (⟨rfl, hw⟩)).trans ?_
          refine (if_neg (by omega)).trans ?_
          refine (if_pos (AV.beq_self _)).trans ?_
          iterate 3 (refine (if_pos (by first | exact True.intro | rfl | omega | (simp; done) | (simp; omega) | (simp [capOf]; done) | (simp [capOf]; omega))).trans ?_)
          refine (if_pos (decide_eq_true (by omega))).trans ?_
          refine (if_pos (by rw [hie]; omega)).trans ?_
          refine (if_pos (by rw [hie]; simp; omega)).trans ?_
          refine (if_neg (by omega)).trans ?_
          refine (if_pos (by rw [hie]; omega)).trans ?_
          iterate 2 (refine (if_pos (by rw [hie]; simp; omega)).trans ?_)
          refine (if_pos (AV.beq_self _)).trans ?_
          refine (if_pos (by first | exact True.intro | rfl | omega | (simp; done) | (simp; omega) | (simp [capOf]; done) | (simp [capOf]; omega))).trans ?_
          refine (if_pos (by rw [hcell]; simp; omega)).trans ?_
          refine (if_pos (by rw [hcell]; simp [h6])).trans ?_
          refine (if_pos (by first | exact True.intro | rfl | omega | (simp; done) | (simp; omega) | (simp [capOf]; done) | (simp [capOf]; omega))).trans ?_
          refine (if_pos (by rw [hcell]; simp; omega)).trans ?_
          refine (if_pos (by rw [hcell]; simp [h7])).trans ?_
          refine (if_pos (cdec_true.2 (sayGoodS (cs := [AV.bool v, b8 10, b8 (kb1 n), b8 (abits IntKind.u8 (· ^^^ ·) (intV (some (b8 (kb2 n)))) (IntKind.u8.wrap (1 * 2 ^ min (q % 8).toNat 8))), b8 (kb3 n), b8 0, b8 0, b8 0, b8 0, b8 0, b8 0, b8 0, b8 0, b8 0, b8 0, b8 0, b8 0]) (ds := kDst v) (l := S) (bOk_row rfl rfl rfl) (by rw [hx2]; exact adrB_wf (by simp [kSrcB])) wK (by simp <;> omega) (by decide) (by rw [hx2]; exact hsrc 2 (by decide))))).trans ?_
          rfl
        · refine Runs.valT0 (tSSOk S) (F := 100) (n := 4) (pr := [(23, .bool false), (34, .bool false), (49, .int .i64 2), (80, .bool true), (86, .bool false)]) ?_
          refine (nfSegSumsB2 v n a q w d S _).trans ?_
          refine (if_pos (decide_eq_false (by omega))).trans ?_
          refine (if_pos (cdec_true.2 (hOf _ _ _ (bOk_row rfl rfl rfl) rfl))).trans ?_
          refine (if_pos (decide_eq_false (by omega))).trans ?_
          refine (if_pos (cdec_true.2 (sayGoodS (cs := kSrc v n) (ds := kDst v) (l := S) (bOk_row rfl rfl rfl) wS wK (by simp <;> omega) (by decide) hg1))).trans ?_
          refine (if_pos (⟨rfl, hw⟩)).trans ?_
          refine (if_neg (by omega)).trans ?_
          refine (if_pos (AV.beq_self _)).trans ?_
          iterate 3 (refine (if_pos (by first | exact True.intro | rfl | omega | (simp; done) | (simp; omega) | (simp [capOf]; done) | (simp [capOf]; omega))).trans ?_)
          refine (if_pos (decide_eq_true (by omega))).trans ?_
          refine (if_pos (by rw [hie]; omega)).trans ?_
          refine (if_pos (by rw [hie]; simp; omega)).trans ?_
          refine (if_neg (by omega)).trans ?_
          refine (if_pos (by rw [hie]; omega)).trans ?_
          iterate 2 (refine (if_pos (by rw [hie]; simp; omega)).trans ?_)
          refine (if_pos (AV.beq_self _)).trans ?_
          refine (if_pos (by first | exact True.intro | rfl | omega | (simp; done) | (simp; omega) | (simp [capOf]; done) | (simp [capOf]; omega))).trans ?_
          refine (if_pos (by rw [hcell]; simp; omega)).trans ?_
          refine (if_pos (by rw [hcell]; simp [h6])).trans ?_
          refine (if_pos (by first | exact True.intro | rfl | omega | (simp; done) | (simp; omega) | (simp [capOf]; done) | (simp [capOf]; omega))).trans ?_
          refine (if_pos (by rw [hcell]; simp; omega)).trans ?_
          refine (if_pos (by rw [hcell]; simp [h7])).trans ?_
          refine (if_pos (cdec_true.2 (sayGoodS (cs := [AV.bool v, b8 10, b8 (kb1 n), b8 (abits IntKind.u8 (· ^^^ ·) (intV (some (b8 (kb2 n)))) (IntKind.u8.wrap (1 * 2 ^ min (q % 8).toNat 8))), b8 (kb3 n), b8 0, b8 0, b8 0, b8 0, b8 0, b8 0, b8 0, b8 0, b8 0, b8 0, b8 0, b8 0]) (ds := kDst v) (l := S) (bOk_row rfl rfl rfl) (by rw [hx2]; exact adrB_wf (by simp [kSrcB])) wK (by simp <;> omega) (by decide) (by rw [hx2]; exact hsrc 2 (by decide))))).trans ?_
          refine (if_pos (cdec_true.2 (sayGoodS (cs := kSrc v n) (ds := kDst v) (l := S') (bOk_row rfl hcell (by omega)) wS wK (by simp <;> omega) (by decide) (hbit (by intro _ h; exact h7 h.2))))).trans ?_
          rfl
      · refine Runs.valT0 (tSSOk S) (F := 100) (n := 4) (pr := [(23, .bool false), (34, .bool false), (49, .int .i64 2), (80, .bool false)]) ?_
        refine (nfSegSumsA2 v n a q w d S _).trans ?_
        refine (if_pos (decide_eq_false (by omega))).trans ?_
        refine (if_pos (cdec_true.2 (hOf _ _ _ (bOk_row rfl rfl rfl) rfl))).trans ?_
        refine (if_pos (decide_eq_false (by omega))).trans ?_
        refine (if_pos (cdec_true.2 (sayGoodS (cs := kSrc v n) (ds := kDst v) (l := S) (bOk_row rfl rfl rfl) wS wK (by simp <;> omega) (by decide) hg1))).trans ?_
        refine (if_pos (⟨rfl, hw⟩)).trans ?_
        refine (if_neg (by omega)).trans ?_
        refine (if_pos (AV.beq_self _)).trans ?_
        iterate 3 (refine (if_pos (by first | exact True.intro | rfl | omega | (simp; done) | (simp; omega) | (simp [capOf]; done) | (simp [capOf]; omega))).trans ?_)
        refine (if_pos (decide_eq_true (by omega))).trans ?_
        refine (if_pos (by rw [hie]; omega)).trans ?_
        refine (if_pos (by rw [hie]; simp; omega)).trans ?_
        refine (if_neg (by omega)).trans ?_
        refine (if_pos (by rw [hie]; omega)).trans ?_
        iterate 2 (refine (if_pos (by rw [hie]; simp; omega)).trans ?_)
        refine (if_pos (AV.beq_self _)).trans ?_
        refine (if_pos (by first | exact True.intro | rfl | omega | (simp; done) | (simp; omega) | (simp [capOf]; done) | (simp [capOf]; omega))).trans ?_
        refine (if_pos (by rw [hcell]; simp; omega)).trans ?_
        refine (if_pos (by rw [hcell]; simp [h6])).trans ?_
        refine (if_pos (cdec_true.2 (sayGoodS (cs := [AV.bool v, b8 10, b8 (kb1 n), b8 (abits IntKind.u8 (· ^^^ ·) (intV (some (b8 (kb2 n)))) (IntKind.u8.wrap (1 * 2 ^ min (q % 8).toNat 8))), b8 (kb3 n), b8 0, b8 0, b8 0, b8 0, b8 0, b8 0, b8 0, b8 0, b8 0, b8 0, b8 0, b8 0]) (ds := kDst v) (l := S) (bOk_row rfl rfl rfl) (by rw [hx2]; exact adrB_wf (by simp [kSrcB])) wK (by simp <;> omega) (by decide) (by rw [hx2]; exact hsrc 2 (by decide))))).trans ?_
        refine (if_pos (cdec_true.2 (sayGoodS (cs := kSrc v n) (ds := kDst v) (l := S') (bOk_row rfl hcell (by omega)) wS wK (by simp <;> omega) (by decide) (hbit (by intro _ h; exact h6 h.1))))).trans ?_
        rfl
    · by_cases h6 : byt S' 6 = 0
      · by_cases h7 : byt S' 7 = 0
        · refine Runs.valT0 (tSSOk S) (F := 100) (n := 4) (pr := [(23, .bool false), (34, .bool false), (49, .int .i64 3), (80, .bool true), (86, .bool true)]) ?_
          refine (nfSegSumsC3 v n a q w d S _).trans ?_
          refine (if_pos (decide_eq_false (by omega))).trans ?_
          refine (if_pos (cdec_true.2 (hOf _ _ _ (bOk_row rfl rfl rfl) rfl))).trans ?_
          refine (if_pos (decide_eq_false (by omega))).trans ?_
          refine (if_pos (cdec_true.2 (sayGoodS (cs := kSrc v n) (ds := kDst v) (l := S) (bOk_row rfl rfl rfl) wS wK (by simp <;> omega) (by decide) hg1))).trans ?_
          refine (if_pos (⟨rfl, hw⟩)).trans ?_
          refine (if_neg (by omega)).trans ?_
          refine (if_pos (AV.beq_self _)).trans ?_
          iterate 3 (refine (if_pos (by first | exact True.intro | rfl | omega | (simp; done) | (simp; omega) | (simp [capOf]; done) | (simp [capOf]; omega))).trans ?_)
          refine (if_pos (decide_eq_true (by omega))).trans ?_
          refine (if_pos (by rw [hie]; omega)).trans ?_
          refine (if_pos (by rw [hie]; simp; omega)).trans ?_
          refine (if_neg (by omega)).trans ?_
          refine (if_pos (by rw [hie]; omega)).trans ?_
          iterate 2 (refine (if_pos (by rw [hie]; simp; omega)).trans ?_)
          refine (if_pos (AV.beq_self _)).trans ?_
          refine (if_pos (by first | exact True.intro | rfl | omega | (simp; done) | (simp; omega) | (simp [capOf]; done) | (simp [capOf]; omega))).trans ?_
          refine (if_pos (by rw [hcell]; simp; omega)).trans ?_
          refine (if_pos (by rw [hcell]; simp [h6])).trans ?_
          refine (if_pos (by first | exact True.intro | rfl | omega | (simp; done) | (simp; omega) | (simp [capOf]; done) | (simp [capOf]; omega))).trans ?_
          refine (if_pos (by rw [hcell]; simp; omega)).trans ?_
          refine (if_pos (by rw [hcell]; simp [h7])).trans ?_
          refine (if_pos (cdec_true.2 (sayGoodS (cs := [AV.bool v, b8 10, b8 (kb1 n), b8 (kb2 n), b8 (abits IntKind.u8 (· ^^^ ·) (intV (some (b8 (kb3 n)))) (IntKind.u8.wrap (1 * 2 ^ min (q % 8).toNat 8))), b8 0, b8 0, b8 0, b8 0, b8 0, b8 0, b8 0, b8 0, b8 0, b8 0, b8 0, b8 0]) (ds := kDst v) (l := S) (bOk_row rfl rfl rfl) (by rw [hx3]; exact adrB_wf (by simp [kSrcB])) wK (by simp <;> omega) (by decide) (by rw [hx3]; exact hsrc 3 (by decide))))).trans ?_
          rfl
        · refine Runs.valT0 (tSSOk S) (F := 100) (n := 4) (pr := [(23, .bool false), (34, .bool false), (49, .int .i64 3), (80, .bool true), (86, .bool false)]) ?_
          refine (nfSegSumsB3 v n a q w d S _).trans ?_
          refine (if_pos (decide_eq_false (by omega))).trans ?_
          refine (if_pos (cdec_true.2 (hOf _ _ _ (bOk_row rfl rfl rfl) rfl))).trans ?_
          refine (if_pos (decide_eq_false (by omega))).trans ?_
          refine (if_pos (cdec_true.2 (sayGoodS (cs := kSrc v n) (ds := kDst v) (l := S) (bOk_row rfl rfl rfl) wS wK (by simp <;> omega) (by decide) hg1))).trans ?_
          refine (if_pos (⟨rfl, hw⟩)).trans ?_
          refine (if_neg (by omega)).trans ?_
          refine (if_pos (AV.beq_self _)).trans ?_
          iterate 3 (refine (if_pos (by first | exact True.intro | rfl | omega | (simp; done) | (simp; omega) | (simp [capOf]; done) | (simp [capOf]; omega))).trans ?_)
          refine (if_pos (decide_eq_true (by omega))).trans ?_
          refine (if_pos (by rw [hie]; omega)).trans ?_
          refine (if_pos (by rw [hie]; simp; omega)).trans ?_
          refine (if_neg (by omega)).trans ?_
          refine (if_pos (by rw [hie]; omega)).trans ?_
          iterate 2 (refine (if_pos (by rw [hie]; simp; omega)).trans ?_)
          refine (if_pos (AV.beq_self _)).trans ?_
          refine (if_pos (by first | exact True.intro | rfl | omega | (simp; done) | (simp; omega) | (simp [capOf]; done) | (simp [capOf]; omega))).trans ?_
          refine (if_pos (by rw [hcell]; simp; omega)).trans ?_
          refine (if_pos (by rw [hcell]; simp [h6])).trans ?_
          refine (if_pos (by first | exact True.intro | rfl | omega | (simp; done) | (simp; omega) | (simp [capOf]; done) | (simp [capOf]; omega))).trans ?_
          refine (if_pos (by rw [hcell]; simp; omega)).trans ?_
          refine (if_pos (by rw [hcell]; simp [h7])).trans ?_
          refine (if_pos (cdec_true.2 (sayGoodS (cs := [AV.bool v, b8 10, b8 (kb1 n), b8 (kb2 n), b8 (abits IntKind.u8 (· ^^^ ·) (intV (some (b8 (kb3 n)))) (IntKind.u8.wrap (1 * 2 ^ min (q % 8).toNat 8))), b8 0, b8 0, b8 0, b8 0, b8 0, b8 0, b8 0, b8 0, b8 0, b8 0, b8 0, b8 0]) (ds := kDst v) (l := S) (bOk_row rfl rfl rfl) (by rw [hx3]; exact adrB_wf (by simp [kSrcB])) wK (by simp <;> omega) (by decide) (by rw [hx3]; exact hsrc 3 (by decide))))).trans ?_
          refine (if_pos (cdec_true.2 (sayGoodS (cs := kSrc v n) (ds := kDst v) (l := S') (bOk_row rfl hcell (by omega)) wS wK (by simp <;> omega) (by decide) (hbit (by intro _ h; exact h7 h.2))))).trans ?_
          rfl
      · refine Runs.valT0 (tSSOk S) (F := 100) (n := 4) (pr := [(23, .bool false), (34, .bool false), (49, .int .i64 3), (80, .bool false)]) ?_
        refine (nfSegSumsA3 v n a q w d S _).trans ?_
        refine (if_pos (decide_eq_false (by omega))).trans ?_
        refine (if_pos (cdec_true.2 (hOf _ _ _ (bOk_row rfl rfl rfl) rfl))).trans ?_
        refine (if_pos (decide_eq_false (by omega))).trans ?_
        refine (if_pos (cdec_true.2 (sayGoodS (cs := kSrc v n) (ds := kDst v) (l := S) (bOk_row rfl rfl rfl) wS wK (by simp <;> omega) (by decide) hg1))).trans ?_
        refine (if_pos (⟨rfl, hw⟩)).trans ?_
        refine (if_neg (by omega)).trans ?_
        refine (if_pos (AV.beq_self _)).trans ?_
        iterate 3 (refine (if_pos (by first | exact True.intro | rfl | omega | (simp; done) | (simp; omega) | (simp [capOf]; done) | (simp [capOf]; omega))).trans ?_)
        refine (if_pos (decide_eq_true (by omega))).trans ?_
        refine (if_pos (by rw [hie]; omega)).trans ?_
        refine (if_pos (by rw [hie]; simp; omega)).trans ?_
        refine (if_neg (by omega)).trans ?_
        refine (if_pos (by rw [hie]; omega)).trans ?_
        iterate 2 (refine (if_pos (by rw [hie]; simp; omega)).trans ?_)
        refine (if_pos (AV.beq_self _)).trans ?_
        refine (if_pos (by first | exact True.intro | rfl | omega | (simp; done) | (simp; omega) | (simp [capOf]; done) | (simp [capOf]; omega))).trans ?_
        refine (if_pos (by rw [hcell]; simp; omega)).trans ?_
        refine (if_pos (by rw [hcell]; simp [h6])).trans ?_
        refine (if_pos (cdec_true.2 (sayGoodS (cs := [AV.bool v, b8 10, b8 (kb1 n), b8 (kb2 n), b8 (abits IntKind.u8 (· ^^^ ·) (intV (some (b8 (kb3 n)))) (IntKind.u8.wrap (1 * 2 ^ min (q % 8).toNat 8))), b8 0, b8 0, b8 0, b8 0, b8 0, b8 0, b8 0, b8 0, b8 0, b8 0, b8 0, b8 0]) (ds := kDst v) (l := S) (bOk_row rfl rfl rfl) (by rw [hx3]; exact adrB_wf (by simp [kSrcB])) wK (by simp <;> omega) (by decide) (by rw [hx3]; exact hsrc 3 (by decide))))).trans ?_
        refine (if_pos (cdec_true.2 (sayGoodS (cs := kSrc v n) (ds := kDst v) (l := S') (bOk_row rfl hcell (by omega)) wS wK (by simp <;> omega) (by decide) (hbit (by intro _ h; exact h6 h.1))))).trans ?_
        rfl

theorem runSegSums (n : Int) (v u : Bool) (d : List UInt8) (a q w : Int) (hn : -9223372036854775808 ≤ n ∧ n < 9223372036854775808) (hl : d.length ≤ maxLen) (ha : -9223372036854775808 ≤ a ∧ a < 9223372036854775808) (hq : -9223372036854775808 ≤ q ∧ q < 9223372036854775808) (hw : -9223372036854775808 ≤ w ∧ w < 9223372036854775808) :
    ∃ h', Runs Try.prog 7 [.int .i64 n, .bool v, .bool u, slB 0 d, .int .i64 a, .int .i64 q, .int .i64 w] [farB d] (.bool true) h' := by
  by_cases hd : d.length ≤ 300
  · exact ssMain v u n a q w d hd
  · refine Runs.valT0 (tSSOk []) (F := 100) (n := 4) (pr := [(23, .bool true)]) ?_
    refine (nfSegSumsL v n a q w d [] u _).trans ?_
    refine (if_pos (decide_eq_true (by omega))).trans ?_
    rfl

end Go.Proofs.Ytmlenlfhciapfaa.L
