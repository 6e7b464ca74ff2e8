/- rewrite.To of any bytes. -/
import Derived.Test.YtnchnjkakddhlaaTgN
set_option autoImplicit false
set_option maxRecDepth 100000
set_option linter.unusedVariables false
set_option linter.unusedSimpArgs false
namespace Go.Proofs.Ytnchnjkakddhlaa.L
open Go Go.Abs

theorem isAdr_wf {cs : List AV} (h : adrWf cs = true) : IsAdr cs := by
  obtain ⟨w, x0, x1, x2, x3, x4, x5, x6, x7, x8, x9, x10, x11, x12, x13, x14, x15, rfl, _⟩ := adrWf_lit h
  exact .mk ⟨w, [x0, x1, x2, x3, x4, x5, x6, x7, x8, x9, x10, x11, x12, x13, x14, x15], 0, rfl⟩ _ rfl

theorem tgRunFF (l D S : List UInt8) (b c : UInt8) (p sp dp fl pt : Int) (A G E : Nat) (hl : E ≤ l.length ∧ l.length ≤ 65535) (h1 : A < G ∧ G < E) (U V cs : List AV) (wX : adrWf U = true) (wY : adrWf V = true) (wc : adrWf cs = true) (hv6 : adrV6 cs = false) (hval : adrValid cs = true) (hv : vRead l = .tup [.agg (viewOf false A G E p U V sp dp fl), .int .i64 0]) (hz : pt ≠ 0) (hpt : 0 ≤ pt ∧ pt < 65536)
    (hD : dest4 ((l.drop A).take (E - A)) cs = b :: D) (hDl : (b :: D).length = E - A) (hS : portL p ((l.drop G).take (E - G)) pt V cs = c :: S) (hSl : (c :: S).length = E - G) :
    ∃ v1 h1, Runs Try.prog 8 [slB 0 l, .agg (cs ++ [.int .u16 pt])] [farB l] v1 h1 ∧ ∃ ks, ∀ K, Den h1 1 K ks v1 (.tup [slB K (over (over l A (b :: D)) G (c :: S)), .bool true]) [ownB (over (over l A (b :: D)) G (c :: S))] ∧ KsOk ks := by
  obtain ⟨wx, x, rfl⟩ := adrWf_fn wX
  obtain ⟨wy, y, rfl⟩ := adrWf_fn wY
  obtain ⟨w, z, rfl⟩ := adrWf_fn wc
  obtain rfl : w = false := hv6
  have hTD : List.take ((b :: D).length.min (l.length - A) * 1) (bys (b :: D)) = bys (b :: D) := by
    refine List.take_of_length_le ?_
    rw [bys_length, hDl]; show E - A ≤ min (E - A) (l.length - A) * 1; omega
  have hTS : List.take ((c :: S).length.min (l.length - G) * 1) (bys (c :: S)) = bys (c :: S) := by
    refine List.take_of_length_le ?_
    rw [bys_length, hSl]; show E - G ≤ min (E - G) (l.length - G) * 1; omega
  refine ⟨(AV.tup [AV.sl (some (3, 0)) l.length 0 false, AV.bool true]), (hTgFF12 l D S b c false wx wy (A : Int) (G : Int) (E : Int) p sp dp fl pt x y z), Runs.ofT0 (tTgOk l (b :: D) (c :: S) (.tup [.agg (viewOf false A G E p (adF wx x) (adF wy y) sp dp fl), .int .i64 0])) (F := 100) (n := 5) (pr := [(34, .bool false)]) ?_, [some 3], fun K => ⟨?_, ksOk1 _⟩⟩
  · refine (nfTgFF l D S b c false wx wy A G E p sp dp fl pt x y z _).trans ?_
    refine (if_pos (cdec_true.2 (sayRead (bOk_row rfl rfl rfl) (by show l.length ≤ _; omega) hv))).trans ?_
    refine (if_neg (by decide)).trans ?_
    refine (if_pos (cdec_true.2 (isAdr_wf wc))).trans ?_
    refine (if_neg (by rw [opq_eq]; show ¬ (!adrValid (adF false z)) = true; rw [hval]; decide)).trans ?_
    refine (if_pos (by simp only [intV]; simp; omega)).trans ?_
    refine (if_pos (cdec_true.2 (sayClone (bOk_row rfl rfl rfl) (by show l.length ≤ _; omega) rfl))).trans ?_
    refine (if_pos (by first | omega | (simp only [intV, capOf_f, bys_length, putCells_len, hTD, hTS, Int.toNat_natCast]; omega))).trans ?_
    refine (if_pos (by first | omega | (simp only [intV, capOf_f, bys_length, putCells_len, hTD, hTS, Int.toNat_natCast]; omega))).trans ?_
    refine (if_pos (by first | omega | (simp only [intV, capOf_f, bys_length, putCells_len, hTD, hTS, Int.toNat_natCast]; omega))).trans ?_
    refine (if_pos (cdec_true.2 (say4D9 (l := (l.drop A).take (E - A)) (bOk_cut (l := l) rfl rfl (by first | omega | (simp only [intV, capOf_f, bys_length, putCells_len, hTD, hTS, Int.toNat_natCast]; omega)) (by simp only [intV, Int.toNat_natCast]; rw [show 0 + A * 1 = A by omega])) (by simp only [nOf_sl, intV]; omega) wc hD rfl))).trans ?_
    refine (if_pos (by simp only [bys_length, Nat.zero_add, Nat.mul_one]; exact Nat.min_le_left _ _)).trans ?_
    refine (if_neg (by simp only [intV, Int.toNat_natCast, hTD]; simp)).trans ?_
    refine (if_pos (by first | omega | (simp only [intV, capOf_f, bys_length, putCells_len, hTD, hTS, Int.toNat_natCast]; omega))).trans ?_
    refine (if_pos ⟨by simp only [intV, Int.toNat_natCast, hTD, hTS, bys_length, putCells_len]; omega, by simp only [intV, Int.toNat_natCast, hTD, hTS]; simp⟩).trans ?_
    refine (if_pos (AV.beq_self _)).trans ?_
    refine (if_pos (by first | omega | (simp only [intV, capOf_f, bys_length, putCells_len, hTD, hTS, Int.toNat_natCast]; omega))).trans ?_
    refine (if_pos (by first | omega | (simp only [intV, capOf_f, bys_length, putCells_len, hTD, hTS, Int.toNat_natCast]; omega))).trans ?_
    refine (if_pos (by first | omega | (simp only [intV, capOf_f, bys_length, putCells_len, hTD, hTS, Int.toNat_natCast]; omega))).trans ?_
    refine (if_pos (cdec_true.2 (sayPort (cs := adF wy y) (ds := adF false z) (l := (l.drop G).take (E - G)) (bOk_cut (l := l) rfl rfl (by first | omega | (simp only [intV, capOf_f, bys_length, putCells_len, hTD, hTS, Int.toNat_natCast]; omega)) (by simp only [intV, Int.toNat_natCast]; rw [show 0 + G * 1 = G by omega])) wY wc (by simp only [nOf_sl, intV]; omega) hpt hS rfl))).trans ?_
    refine (if_pos (by simp only [bys_length, Nat.zero_add, Nat.mul_one]; exact Nat.min_le_left _ _)).trans ?_
    refine (if_neg (by simp only [intV, Int.toNat_natCast, hTS]; simp)).trans ?_
    refine (if_pos (by first | omega | (simp only [intV, capOf_f, bys_length, putCells_len, hTD, hTS, Int.toNat_natCast]; omega))).trans ?_
    refine (if_pos ⟨by simp only [intV, Int.toNat_natCast, hTD, hTS, bys_length, putCells_len]; omega, by simp only [intV, Int.toNat_natCast, hTD, hTS]; simp⟩).trans ?_
    refine (if_pos (AV.beq_self _)).trans ?_
    rfl
  · have e1 : (over l A (b :: D)).length = l.length := over_length (by omega)
    have e2 : (over (over l A (b :: D)) G (c :: S)).length = l.length := by rw [over_length (by omega), e1]
    refine .tup _ _ _ _ _ (.cons _ [some 3] [] _ _ _ _ [ownB (over (over l A (b :: D)) G (c :: S))] [] (denP9 (l := over (over l A (b :: D)) G (c :: S)) (by decide) rfl ?_ ?_ ?_ ?_) (.cons _ [] [] _ _ _ _ [] [] (.flat _ _ rfl) (.nil _)))
    · simp only [intV, Int.toNat_natCast, hTD, hTS]
      rw [show 0 + A * 1 = A by omega, show 0 + G * 1 = G by omega, over_cells (by omega), over_cells (by omega)]
    · omega
    · omega
    · rw [List.drop_zero, ← e2, List.take_length]

theorem tgRunFT (l D S : List UInt8) (b c : UInt8) (p sp dp fl pt : Int) (A G E : Nat) (hl : E ≤ l.length ∧ l.length ≤ 65535) (h1 : A < G ∧ G < E) (U V cs : List AV) (wX : adrWf U = true) (wY : adrWf V = true) (wc : adrWf cs = true) (hv6 : adrV6 cs = false) (hval : adrValid cs = true) (hv : vRead l = .tup [.agg (viewOf false A G E p U V sp dp fl), .int .i64 0]) (hz : pt = 0) (hpt : 0 ≤ dp ∧ dp < 65536)
    (hD : dest4 ((l.drop A).take (E - A)) cs = b :: D) (hDl : (b :: D).length = E - A) (hS : portL p ((l.drop G).take (E - G)) dp V cs = c :: S) (hSl : (c :: S).length = E - G) :
    ∃ v1 h1, Runs Try.prog 8 [slB 0 l, .agg (cs ++ [.int .u16 pt])] [farB l] v1 h1 ∧ ∃ ks, ∀ K, Den h1 1 K ks v1 (.tup [slB K (over (over l A (b :: D)) G (c :: S)), .bool true]) [ownB (over (over l A (b :: D)) G (c :: S))] ∧ KsOk ks := by
  obtain ⟨wx, x, rfl⟩ := adrWf_fn wX
  obtain ⟨wy, y, rfl⟩ := adrWf_fn wY
  obtain ⟨w, z, rfl⟩ := adrWf_fn wc
  obtain rfl : w = false := hv6
  have hTD : List.take ((b :: D).length.min (l.length - A) * 1) (bys (b :: D)) = bys (b :: D) := by
    refine List.take_of_length_le ?_
    rw [bys_length, hDl]; show E - A ≤ min (E - A) (l.length - A) * 1; omega
  have hTS : List.take ((c :: S).length.min (l.length - G) * 1) (bys (c :: S)) = bys (c :: S) := by
    refine List.take_of_length_le ?_
    rw [bys_length, hSl]; show E - G ≤ min (E - G) (l.length - G) * 1; omega
  refine ⟨(AV.tup [AV.sl (some (3, 0)) l.length 0 false, AV.bool true]), (hTgFT12 l D S b c false wx wy (A : Int) (G : Int) (E : Int) p sp dp fl pt x y z), Runs.ofT0 (tTgOk l (b :: D) (c :: S) (.tup [.agg (viewOf false A G E p (adF wx x) (adF wy y) sp dp fl), .int .i64 0])) (F := 100) (n := 5) (pr := [(34, .bool true)]) ?_, [some 3], fun K => ⟨?_, ksOk1 _⟩⟩
  · refine (nfTgFT l D S b c false wx wy A G E p sp dp fl pt x y z _).trans ?_
    refine (if_pos (cdec_true.2 (sayRead (bOk_row rfl rfl rfl) (by show l.length ≤ _; omega) hv))).trans ?_
    refine (if_neg (by decide)).trans ?_
    refine (if_pos (cdec_true.2 (isAdr_wf wc))).trans ?_
    refine (if_neg (by rw [opq_eq]; show ¬ (!adrValid (adF false z)) = true; rw [hval]; decide)).trans ?_
    refine (if_pos (by simp only [intV]; simp; omega)).trans ?_
    refine (if_pos (cdec_true.2 (sayClone (bOk_row rfl rfl rfl) (by show l.length ≤ _; omega) rfl))).trans ?_
    refine (if_pos (by first | omega | (simp only [intV, capOf_f, bys_length, putCells_len, hTD, hTS, Int.toNat_natCast]; omega))).trans ?_
    refine (if_pos (by first | omega | (simp only [intV, capOf_f, bys_length, putCells_len, hTD, hTS, Int.toNat_natCast]; omega))).trans ?_
    refine (if_pos (by first | omega | (simp only [intV, capOf_f, bys_length, putCells_len, hTD, hTS, Int.toNat_natCast]; omega))).trans ?_
    refine (if_pos (cdec_true.2 (say4D9 (l := (l.drop A).take (E - A)) (bOk_cut (l := l) rfl rfl (by first | omega | (simp only [intV, capOf_f, bys_length, putCells_len, hTD, hTS, Int.toNat_natCast]; omega)) (by simp only [intV, Int.toNat_natCast]; rw [show 0 + A * 1 = A by omega])) (by simp only [nOf_sl, intV]; omega) wc hD rfl))).trans ?_
    refine (if_pos (by simp only [bys_length, Nat.zero_add, Nat.mul_one]; exact Nat.min_le_left _ _)).trans ?_
    refine (if_neg (by simp only [intV, Int.toNat_natCast, hTD]; simp)).trans ?_
    refine (if_pos (by first | omega | (simp only [intV, capOf_f, bys_length, putCells_len, hTD, hTS, Int.toNat_natCast]; omega))).trans ?_
    refine (if_pos ⟨by simp only [intV, Int.toNat_natCast, hTD, hTS, bys_length, putCells_len]; omega, by simp only [intV, Int.toNat_natCast, hTD, hTS]; simp⟩).trans ?_
    refine (if_pos (AV.beq_self _)).trans ?_
    refine (if_pos (by first | omega | (simp only [intV, capOf_f, bys_length, putCells_len, hTD, hTS, Int.toNat_natCast]; omega))).trans ?_
    refine (if_pos (by first | omega | (simp only [intV, capOf_f, bys_length, putCells_len, hTD, hTS, Int.toNat_natCast]; omega))).trans ?_
    refine (if_pos (by first | omega | (simp only [intV, capOf_f, bys_length, putCells_len, hTD, hTS, Int.toNat_natCast]; omega))).trans ?_
    refine (if_pos (cdec_true.2 (sayPort (cs := adF wy y) (ds := adF false z) (l := (l.drop G).take (E - G)) (bOk_cut (l := l) rfl rfl (by first | omega | (simp only [intV, capOf_f, bys_length, putCells_len, hTD, hTS, Int.toNat_natCast]; omega)) (by simp only [intV, Int.toNat_natCast]; rw [show 0 + G * 1 = G by omega])) wY wc (by simp only [nOf_sl, intV]; omega) hpt hS rfl))).trans ?_
    refine (if_pos (by simp only [bys_length, Nat.zero_add, Nat.mul_one]; exact Nat.min_le_left _ _)).trans ?_
    refine (if_neg (by simp only [intV, Int.toNat_natCast, hTS]; simp)).trans ?_
    refine (if_pos (by first | omega | (simp only [intV, capOf_f, bys_length, putCells_len, hTD, hTS, Int.toNat_natCast]; omega))).trans ?_
    refine (if_pos ⟨by simp only [intV, Int.toNat_natCast, hTD, hTS, bys_length, putCells_len]; omega, by simp only [intV, Int.toNat_natCast, hTD, hTS]; simp⟩).trans ?_
    refine (if_pos (AV.beq_self _)).trans ?_
    rfl
  · have e1 : (over l A (b :: D)).length = l.length := over_length (by omega)
    have e2 : (over (over l A (b :: D)) G (c :: S)).length = l.length := by rw [over_length (by omega), e1]
    refine .tup _ _ _ _ _ (.cons _ [some 3] [] _ _ _ _ [ownB (over (over l A (b :: D)) G (c :: S))] [] (denP9 (l := over (over l A (b :: D)) G (c :: S)) (by decide) rfl ?_ ?_ ?_ ?_) (.cons _ [] [] _ _ _ _ [] [] (.flat _ _ rfl) (.nil _)))
    · simp only [intV, Int.toNat_natCast, hTD, hTS]
      rw [show 0 + A * 1 = A by omega, show 0 + G * 1 = G by omega, over_cells (by omega), over_cells (by omega)]
    · omega
    · omega
    · rw [List.drop_zero, ← e2, List.take_length]

theorem tgRunTF (l D S : List UInt8) (b c : UInt8) (p sp dp fl pt : Int) (A G E : Nat) (hl : E ≤ l.length ∧ l.length ≤ 65535) (h1 : A < G ∧ G < E) (U V cs : List AV) (wX : adrWf U = true) (wY : adrWf V = true) (wc : adrWf cs = true) (hv6 : adrV6 cs = true) (hval : adrValid cs = true) (hv : vRead l = .tup [.agg (viewOf true A G E p U V sp dp fl), .int .i64 0]) (hz : pt ≠ 0) (hpt : 0 ≤ pt ∧ pt < 65536)
    (hD : dest6 ((l.drop A).take (E - A)) cs = b :: D) (hDl : (b :: D).length = E - A) (hS : portL p ((l.drop G).take (E - G)) pt V cs = c :: S) (hSl : (c :: S).length = E - G) :
    ∃ v1 h1, Runs Try.prog 8 [slB 0 l, .agg (cs ++ [.int .u16 pt])] [farB l] v1 h1 ∧ ∃ ks, ∀ K, Den h1 1 K ks v1 (.tup [slB K (over (over l A (b :: D)) G (c :: S)), .bool true]) [ownB (over (over l A (b :: D)) G (c :: S))] ∧ KsOk ks := by
  obtain ⟨wx, x, rfl⟩ := adrWf_fn wX
  obtain ⟨wy, y, rfl⟩ := adrWf_fn wY
  obtain ⟨w, z, rfl⟩ := adrWf_fn wc
  obtain rfl : w = true := hv6
  have hTD : List.take ((b :: D).length.min (l.length - A) * 1) (bys (b :: D)) = bys (b :: D) := by
    refine List.take_of_length_le ?_
    rw [bys_length, hDl]; show E - A ≤ min (E - A) (l.length - A) * 1; omega
  have hTS : List.take ((c :: S).length.min (l.length - G) * 1) (bys (c :: S)) = bys (c :: S) := by
    refine List.take_of_length_le ?_
    rw [bys_length, hSl]; show E - G ≤ min (E - G) (l.length - G) * 1; omega
  refine ⟨(AV.tup [AV.sl (some (3, 0)) l.length 0 false, AV.bool true]), (hTgTF12 l D S b c true wx wy (A : Int) (G : Int) (E : Int) p sp dp fl pt x y z), Runs.ofT0 (tTgOk l (b :: D) (c :: S) (.tup [.agg (viewOf true A G E p (adF wx x) (adF wy y) sp dp fl), .int .i64 0])) (F := 100) (n := 5) (pr := [(34, .bool false)]) ?_, [some 3], fun K => ⟨?_, ksOk1 _⟩⟩
  · refine (nfTgTF l D S b c true wx wy A G E p sp dp fl pt x y z _).trans ?_
    refine (if_pos (cdec_true.2 (sayRead (bOk_row rfl rfl rfl) (by show l.length ≤ _; omega) hv))).trans ?_
    refine (if_neg (by decide)).trans ?_
    refine (if_pos (cdec_true.2 (isAdr_wf wc))).trans ?_
    refine (if_neg (by rw [opq_eq]; show ¬ (!adrValid (adF true z)) = true; rw [hval]; decide)).trans ?_
    refine (if_pos (by simp only [intV]; simp; omega)).trans ?_
    refine (if_pos (cdec_true.2 (sayClone (bOk_row rfl rfl rfl) (by show l.length ≤ _; omega) rfl))).trans ?_
    refine (if_pos (by first | omega | (simp only [intV, capOf_f, bys_length, putCells_len, hTD, hTS, Int.toNat_natCast]; omega))).trans ?_
    refine (if_pos (by first | omega | (simp only [intV, capOf_f, bys_length, putCells_len, hTD, hTS, Int.toNat_natCast]; omega))).trans ?_
    refine (if_pos (by first | omega | (simp only [intV, capOf_f, bys_length, putCells_len, hTD, hTS, Int.toNat_natCast]; omega))).trans ?_
    refine (if_pos (cdec_true.2 (say6D9 (l := (l.drop A).take (E - A)) (bOk_cut (l := l) rfl rfl (by first | omega | (simp only [intV, capOf_f, bys_length, putCells_len, hTD, hTS, Int.toNat_natCast]; omega)) (by simp only [intV, Int.toNat_natCast]; rw [show 0 + A * 1 = A by omega])) (by simp only [nOf_sl, intV]; omega) wc hD rfl))).trans ?_
    refine (if_pos (by simp only [bys_length, Nat.zero_add, Nat.mul_one]; exact Nat.min_le_left _ _)).trans ?_
    refine (if_neg (by simp only [intV, Int.toNat_natCast, hTD]; simp)).trans ?_
    refine (if_pos (by first | omega | (simp only [intV, capOf_f, bys_length, putCells_len, hTD, hTS, Int.toNat_natCast]; omega))).trans ?_
    refine (if_pos ⟨by simp only [intV, Int.toNat_natCast, hTD, hTS, bys_length, putCells_len]; omega, by simp only [intV, Int.toNat_natCast, hTD, hTS]; simp⟩).trans ?_
    refine (if_pos (AV.beq_self _)).trans ?_
    refine (if_pos (by first | omega | (simp only [intV, capOf_f, bys_length, putCells_len, hTD, hTS, Int.toNat_natCast]; omega))).trans ?_
    refine (if_pos (by first | omega | (simp only [intV, capOf_f, bys_length, putCells_len, hTD, hTS, Int.toNat_natCast]; omega))).trans ?_
    refine (if_pos (by first | omega | (simp only [intV, capOf_f, bys_length, putCells_len, hTD, hTS, Int.toNat_natCast]; omega))).trans ?_
    refine (if_pos (cdec_true.2 (sayPort (cs := adF wy y) (ds := adF true z) (l := (l.drop G).take (E - G)) (bOk_cut (l := l) rfl rfl (by first | omega | (simp only [intV, capOf_f, bys_length, putCells_len, hTD, hTS, Int.toNat_natCast]; omega)) (by simp only [intV, Int.toNat_natCast]; rw [show 0 + G * 1 = G by omega])) wY wc (by simp only [nOf_sl, intV]; omega) hpt hS rfl))).trans ?_
    refine (if_pos (by simp only [bys_length, Nat.zero_add, Nat.mul_one]; exact Nat.min_le_left _ _)).trans ?_
    refine (if_neg (by simp only [intV, Int.toNat_natCast, hTS]; simp)).trans ?_
    refine (if_pos (by first | omega | (simp only [intV, capOf_f, bys_length, putCells_len, hTD, hTS, Int.toNat_natCast]; omega))).trans ?_
    refine (if_pos ⟨by simp only [intV, Int.toNat_natCast, hTD, hTS, bys_length, putCells_len]; omega, by simp only [intV, Int.toNat_natCast, hTD, hTS]; simp⟩).trans ?_
    refine (if_pos (AV.beq_self _)).trans ?_
    rfl
  · have e1 : (over l A (b :: D)).length = l.length := over_length (by omega)
    have e2 : (over (over l A (b :: D)) G (c :: S)).length = l.length := by rw [over_length (by omega), e1]
    refine .tup _ _ _ _ _ (.cons _ [some 3] [] _ _ _ _ [ownB (over (over l A (b :: D)) G (c :: S))] [] (denP9 (l := over (over l A (b :: D)) G (c :: S)) (by decide) rfl ?_ ?_ ?_ ?_) (.cons _ [] [] _ _ _ _ [] [] (.flat _ _ rfl) (.nil _)))
    · simp only [intV, Int.toNat_natCast, hTD, hTS]
      rw [show 0 + A * 1 = A by omega, show 0 + G * 1 = G by omega, over_cells (by omega), over_cells (by omega)]
    · omega
    · omega
    · rw [List.drop_zero, ← e2, List.take_length]

theorem tgRunTT (l D S : List UInt8) (b c : UInt8) (p sp dp fl pt : Int) (A G E : Nat) (hl : E ≤ l.length ∧ l.length ≤ 65535) (h1 : A < G ∧ G < E) (U V cs : List AV) (wX : adrWf U = true) (wY : adrWf V = true) (wc : adrWf cs = true) (hv6 : adrV6 cs = true) (hval : adrValid cs = true) (hv : vRead l = .tup [.agg (viewOf true A G E p U V sp dp fl), .int .i64 0]) (hz : pt = 0) (hpt : 0 ≤ dp ∧ dp < 65536)
    (hD : dest6 ((l.drop A).take (E - A)) cs = b :: D) (hDl : (b :: D).length = E - A) (hS : portL p ((l.drop G).take (E - G)) dp V cs = c :: S) (hSl : (c :: S).length = E - G) :
    ∃ v1 h1, Runs Try.prog 8 [slB 0 l, .agg (cs ++ [.int .u16 pt])] [farB l] v1 h1 ∧ ∃ ks, ∀ K, Den h1 1 K ks v1 (.tup [slB K (over (over l A (b :: D)) G (c :: S)), .bool true]) [ownB (over (over l A (b :: D)) G (c :: S))] ∧ KsOk ks := by
  obtain ⟨wx, x, rfl⟩ := adrWf_fn wX
  obtain ⟨wy, y, rfl⟩ := adrWf_fn wY
  obtain ⟨w, z, rfl⟩ := adrWf_fn wc
  obtain rfl : w = true := hv6
  have hTD : List.take ((b :: D).length.min (l.length - A) * 1) (bys (b :: D)) = bys (b :: D) := by
    refine List.take_of_length_le ?_
    rw [bys_length, hDl]; show E - A ≤ min (E - A) (l.length - A) * 1; omega
  have hTS : List.take ((c :: S).length.min (l.length - G) * 1) (bys (c :: S)) = bys (c :: S) := by
    refine List.take_of_length_le ?_
    rw [bys_length, hSl]; show E - G ≤ min (E - G) (l.length - G) * 1; omega
  refine ⟨(AV.tup [AV.sl (some (3, 0)) l.length 0 false, AV.bool true]), (hTgTT12 l D S b c true wx wy (A : Int) (G : Int) (E : Int) p sp dp fl pt x y z), Runs.ofT0 (tTgOk l (b :: D) (c :: S) (.tup [.agg (viewOf true A G E p (adF wx x) (adF wy y) sp dp fl), .int .i64 0])) (F := 100) (n := 5) (pr := [(34, .bool true)]) ?_, [some 3], fun K => ⟨?_, ksOk1 _⟩⟩
  · refine (nfTgTT l D S b c true wx wy A G E p sp dp fl pt x y z _).trans ?_
    refine (if_pos (cdec_true.2 (sayRead (bOk_row rfl rfl rfl) (by show l.length ≤ _; omega) hv))).trans ?_
    refine (if_neg (by decide)).trans ?_
    refine (if_pos (cdec_true.2 (isAdr_wf wc))).trans ?_
    refine (if_neg (by rw [opq_eq]; show ¬ (!adrValid (adF true z)) = true; rw [hval]; decide)).trans ?_
    refine (if_pos (by simp only [intV]; simp; omega)).trans ?_
    refine (if_pos (cdec_true.2 (sayClone (bOk_row rfl rfl rfl) (by show l.length ≤ _; omega) rfl))).trans ?_
    refine (if_pos (by first | omega | (simp only [intV, capOf_f, bys_length, putCells_len, hTD, hTS, Int.toNat_natCast]; omega))).trans ?_
    refine (if_pos (by first | omega | (simp only [intV, capOf_f, bys_length, putCells_len, hTD, hTS, Int.toNat_natCast]; omega))).trans ?_
    refine (if_pos (by first | omega | (simp only [intV, capOf_f, bys_length, putCells_len, hTD, hTS, Int.toNat_natCast]; omega))).trans ?_
    refine (if_pos (cdec_true.2 (say6D9 (l := (l.drop A).take (E - A)) (bOk_cut (l := l) rfl rfl (by first | omega | (simp only [intV, capOf_f, bys_length, putCells_len, hTD, hTS, Int.toNat_natCast]; omega)) (by simp only [intV, Int.toNat_natCast]; rw [show 0 + A * 1 = A by omega])) (by simp only [nOf_sl, intV]; omega) wc hD rfl))).trans ?_
    refine (if_pos (by simp only [bys_length, Nat.zero_add, Nat.mul_one]; exact Nat.min_le_left _ _)).trans ?_
    refine (if_neg (by simp only [intV, Int.toNat_natCast, hTD]; simp)).trans ?_
    refine (if_pos (by first | omega | (simp only [intV, capOf_f, bys_length, putCells_len, hTD, hTS, Int.toNat_natCast]; omega))).trans ?_
    refine (if_pos ⟨by simp only [intV, Int.toNat_natCast, hTD, hTS, bys_length, putCells_len]; omega, by simp only [intV, Int.toNat_natCast, hTD, hTS]; simp⟩).trans ?_
    refine (if_pos (AV.beq_self _)).trans ?_
    refine (if_pos (by first | omega | (simp only [intV, capOf_f, bys_length, putCells_len, hTD, hTS, Int.toNat_natCast]; omega))).trans ?_
    refine (if_pos (by first | omega | (simp only [intV, capOf_f, bys_length, putCells_len, hTD, hTS, Int.toNat_natCast]; omega))).trans ?_
    refine (if_pos (by first | omega | (simp only [intV, capOf_f, bys_length, putCells_len, hTD, hTS, Int.toNat_natCast]; omega))).trans ?_
    refine (if_pos (cdec_true.2 (sayPort (cs := adF wy y) (ds := adF true z) (l := (l.drop G).take (E - G)) (bOk_cut (l := l) rfl rfl (by first | omega | (simp only [intV, capOf_f, bys_length, putCells_len, hTD, hTS, Int.toNat_natCast]; omega)) (by simp only [intV, Int.toNat_natCast]; rw [show 0 + G * 1 = G by omega])) wY wc (by simp only [nOf_sl, intV]; omega) hpt hS rfl))).trans ?_
    refine (if_pos (by simp only [bys_length, Nat.zero_add, Nat.mul_one]; exact Nat.min_le_left _ _)).trans ?_
    refine (if_neg (by simp only [intV, Int.toNat_natCast, hTS]; simp)).trans ?_
    refine (if_pos (by first | omega | (simp only [intV, capOf_f, bys_length, putCells_len, hTD, hTS, Int.toNat_natCast]; omega))).trans ?_
    refine (if_pos ⟨by simp only [intV, Int.toNat_natCast, hTD, hTS, bys_length, putCells_len]; omega, by simp only [intV, Int.toNat_natCast, hTD, hTS]; simp⟩).trans ?_
    refine (if_pos (AV.beq_self _)).trans ?_
    rfl
  · have e1 : (over l A (b :: D)).length = l.length := over_length (by omega)
    have e2 : (over (over l A (b :: D)) G (c :: S)).length = l.length := by rw [over_length (by omega), e1]
    refine .tup _ _ _ _ _ (.cons _ [some 3] [] _ _ _ _ [ownB (over (over l A (b :: D)) G (c :: S))] [] (denP9 (l := over (over l A (b :: D)) G (c :: S)) (by decide) rfl ?_ ?_ ?_ ?_) (.cons _ [] [] _ _ _ _ [] [] (.flat _ _ rfl) (.nil _)))
    · simp only [intV, Int.toNat_natCast, hTD, hTS]
      rw [show 0 + A * 1 = A by omega, show 0 + G * 1 = G by omega, over_cells (by omega), over_cells (by omega)]
    · omega
    · omega
    · rw [List.drop_zero, ← e2, List.take_length]

theorem tgBadF (l : List UInt8) (A G E p sp dp fl pt : Int) (hl : l.length ≤ 65535) (U V cs : List AV) (wX : adrWf U = true) (wY : adrWf V = true) (wc : adrWf cs = true) (hb : adrV6 cs ≠ false ∨ adrValid cs = false) (hv : vRead l = .tup [.agg (viewOf false A G E p U V sp dp fl), .int .i64 0]) :
    ∃ h1, Runs Try.prog 8 [slB 0 l, .agg (cs ++ [.int .u16 pt])] [farB l] (.tup [.sl none 0 0 true, .bool false]) h1 := by
  obtain ⟨wx, x, rfl⟩ := adrWf_fn wX
  obtain ⟨wy, y, rfl⟩ := adrWf_fn wY
  obtain ⟨w, z, rfl⟩ := adrWf_fn wc
  refine Runs.valT0 (tTgOk l [0] [0] (.tup [.agg (viewOf false A G E p (adF wx x) (adF wy y) sp dp fl), .int .i64 0])) (F := 100) (n := 5) (pr := [(34, .bool false)]) ?_
  refine (nfTgFF l [] [] 0 0 w wx wy A G E p sp dp fl pt x y z _).trans ?_
  refine (if_pos (cdec_true.2 (sayRead (bOk_row rfl rfl rfl) (by show l.length ≤ _; omega) hv))).trans ?_
  by_cases hw : w = false
  · subst hw
    refine (if_neg (by decide)).trans ?_
    refine (if_pos (cdec_true.2 (isAdr_wf wc))).trans ?_
    have hval := hb.resolve_left (fun h => h rfl)
    exact if_pos (by rw [opq_eq]; show (!adrValid (adF false z)) = true; rw [hval]; rfl)
  · exact if_pos (by cases w <;> first | rfl | exact absurd rfl hw)

theorem tgBadT (l : List UInt8) (A G E p sp dp fl pt : Int) (hl : l.length ≤ 65535) (U V cs : List AV) (wX : adrWf U = true) (wY : adrWf V = true) (wc : adrWf cs = true) (hb : adrV6 cs ≠ true ∨ adrValid cs = false) (hv : vRead l = .tup [.agg (viewOf true A G E p U V sp dp fl), .int .i64 0]) :
    ∃ h1, Runs Try.prog 8 [slB 0 l, .agg (cs ++ [.int .u16 pt])] [farB l] (.tup [.sl none 0 0 true, .bool false]) h1 := by
  obtain ⟨wx, x, rfl⟩ := adrWf_fn wX
  obtain ⟨wy, y, rfl⟩ := adrWf_fn wY
  obtain ⟨w, z, rfl⟩ := adrWf_fn wc
  refine Runs.valT0 (tTgOk l [0] [0] (.tup [.agg (viewOf true A G E p (adF wx x) (adF wy y) sp dp fl), .int .i64 0])) (F := 100) (n := 5) (pr := [(34, .bool false)]) ?_
  refine (nfTgTF l [] [] 0 0 w wx wy A G E p sp dp fl pt x y z _).trans ?_
  refine (if_pos (cdec_true.2 (sayRead (bOk_row rfl rfl rfl) (by show l.length ≤ _; omega) hv))).trans ?_
  by_cases hw : w = true
  · subst hw
    refine (if_neg (by decide)).trans ?_
    refine (if_pos (cdec_true.2 (isAdr_wf wc))).trans ?_
    have hval := hb.resolve_left (fun h => h rfl)
    exact if_pos (by rw [opq_eq]; show (!adrValid (adF true z)) = true; rw [hval]; rfl)
  · exact if_pos (by cases w <;> first | rfl | exact absurd rfl hw)

theorem tgErr (l : List UInt8) (r pt : Int) (hl : l.length ≤ 1000000000000) (cs : List AV) (wc : adrWf cs = true) (hr : readR l = r) (h0 : r ≠ 0) :
    ∃ h1, Runs Try.prog 8 [slB 0 l, .agg (cs ++ [.int .u16 pt])] [farB l] (.tup [.sl none 0 0 true, .bool false]) h1 := by
  obtain ⟨w, z, rfl⟩ := adrWf_fn wc
  refine Runs.valT0 (tTgOk l [] [] (.tup [.agg view0, .int .i64 r])) (F := 100) (n := 5) (pr := []) ?_
  refine (nfTgE l w r pt z _).trans ?_
  refine (if_pos (cdec_true.2 (sayRead (bOk_row rfl rfl rfl) hl (vRead_N hr h0)))).trans ?_
  exact if_pos (by simpa using h0)

end Go.Proofs.Ytnchnjkakddhlaa.L
