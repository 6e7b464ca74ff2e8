/- rewrite.To of any bytes. -/
import Derived.Test.YtnchnjkakddhlaaTgN
set_option autoImplicit false
set_option maxRecDepth 100000
set_option linter.unusedVariables false
set_option linter.unusedSimpArgs false
namespace Go.Proofs.Ytnchnjkakddhlaa.L
open Go Go.Abs

theorem zgl {cs : List AV} (h : zas cs = true) : IsAdr cs := by
 obtain ⟨w, x0, x1, x2, x3, x4, x5, x6, x7, x8, x9, x10, x11, x12, x13, x14, x15, rfl, _⟩ := zfK h
 exact .mk ⟨w, [x0, x1, x2, x3, x4, x5, x6, x7, x8, x9, x10, x11, x12, x13, x14, x15], 0, rfl⟩ _ rfl

theorem zw8 (l D S : List UInt8) (b c : UInt8) (p sp dp fl pt : Int) (A G E : Nat) (hl : E ≤ l.length ∧ l.length ≤ 65535) (h1 : A < G ∧ G < E) (U V cs : List AV) (wX : zas U = true) (wY : zas V = true) (wc : zas cs = true) (hv6 : za8 cs = false) (hval : zbd cs = true) (hv : zci l = .tup [.agg (zaO false A G E p U V sp dp fl), .int .i64 0]) (hz : pt ≠ 0) (hpt : 0 ≤ pt ∧ pt < 65536)
 (hD : zc6 ((l.drop A).take (E - A)) cs = b :: D) (hDl : (b :: D).length = E - A) (hS : zdL p ((l.drop G).take (E - G)) pt V cs = c :: S) (hSl : (c :: S).length = E - G) :
 ∃ v1 h1, Runs Try.prog 8 [slB 0 l, .agg (cs ++ [.int .u16 pt])] [zaC l] v1 h1 ∧ ∃ ks, ∀ K, Den h1 1 K ks v1 (.tup [slB K (zdu (zdu l A (b :: D)) G (c :: S)), .bool true]) [zbo (zdu (zdu l A (b :: D)) G (c :: S))] ∧ zkX ks := by
 obtain ⟨wx, x, rfl⟩ := zbK wX
 obtain ⟨wy, y, rfl⟩ := zbK wY
 obtain ⟨w, z, rfl⟩ := zbK wc
 obtain rfl : w = false := hv6
 have hTD : List.take ((b :: D).length.min (l.length - A) * 1) (bys (b :: D)) = bys (b :: D) := by
  refine List.take_of_length_le ?_
  rw [zah, hDl]; show E - A ≤ min (E - A) (l.length - A) * 1; omega
 have hTS : List.take ((c :: S).length.min (l.length - G) * 1) (bys (c :: S)) = bys (c :: S) := by
  refine List.take_of_length_le ?_
  rw [zah, hSl]; show E - G ≤ min (E - G) (l.length - G) * 1; omega
 refine ⟨(AV.tup [AV.sl (some (3, 0)) l.length 0 false, AV.bool true]), (zk3 l D S b c false wx wy (A : Int) (G : Int) (E : Int) p sp dp fl pt x y z), Runs.ofT0 (znh l (b :: D) (c :: S) (.tup [.agg (zaO false A G E p (adF wx x) (adF wy y) sp dp fl), .int .i64 0])) (F := 100) (n := 5) (pr := [(34, .bool false)]) ?_, [some 3], fun K => ⟨?_, zdJ _⟩⟩
 · refine (zwq l D S b c false wx wy A G E p sp dp fl pt x y z _).trans ?_
   refine (if_pos (zab.2 (zc8 (zam rfl rfl rfl) (by show l.length ≤ _; omega) hv))).trans ?_
   refine (if_neg (by decide)).trans ?_
   refine (if_pos (zab.2 (zgl wc))).trans ?_
   refine (if_neg (by rw [zjr]; show ¬ (!zbd (adF false z)) = true; rw [hval]; decide)).trans ?_
   refine (if_pos (by simp only [zad]; simp; omega)).trans ?_
   refine (if_pos (zab.2 (zeb (zam rfl rfl rfl) (by show l.length ≤ _; omega) rfl))).trans ?_
   refine (if_pos (by first | omega | (simp only [zad, zaz, zah, zak, hTD, hTS, Int.toNat_natCast]; omega))).trans ?_
   refine (if_pos (by first | omega | (simp only [zad, zaz, zah, zak, hTD, hTS, Int.toNat_natCast]; omega))).trans ?_
   refine (if_pos (by first | omega | (simp only [zad, zaz, zah, zak, hTD, hTS, Int.toNat_natCast]; omega))).trans ?_
   refine (if_pos (zab.2 (zwk (l := (l.drop A).take (E - A)) (zbf (l := l) rfl rfl (by first | omega | (simp only [zad, zaz, zah, zak, hTD, hTS, Int.toNat_natCast]; omega)) (by simp only [zad, Int.toNat_natCast]; rw [show 0 + A * 1 = A by omega])) (by simp only [zby, zad]; omega) wc hD rfl))).trans ?_
   refine (if_pos (by simp only [zah, Nat.zero_add, Nat.mul_one]; exact Nat.min_le_left _ _)).trans ?_
   refine (if_neg (by simp only [zad, Int.toNat_natCast, hTD]; simp)).trans ?_
   refine (if_pos (by first | omega | (simp only [zad, zaz, zah, zak, hTD, hTS, Int.toNat_natCast]; omega))).trans ?_
   refine (if_pos ⟨by simp only [zad, Int.toNat_natCast, hTD, hTS, zah, zak]; omega, by simp only [zad, Int.toNat_natCast, hTD, hTS]; simp⟩).trans ?_
   refine (if_pos (AV.beq_self _)).trans ?_
   refine (if_pos (by first | omega | (simp only [zad, zaz, zah, zak, hTD, hTS, Int.toNat_natCast]; omega))).trans ?_
   refine (if_pos (by first | omega | (simp only [zad, zaz, zah, zak, hTD, hTS, Int.toNat_natCast]; omega))).trans ?_
   refine (if_pos (by first | omega | (simp only [zad, zaz, zah, zak, hTD, hTS, Int.toNat_natCast]; omega))).trans ?_
   refine (if_pos (zab.2 (zlA (cs := adF wy y) (ds := adF false z) (l := (l.drop G).take (E - G)) (zbf (l := l) rfl rfl (by first | omega | (simp only [zad, zaz, zah, zak, hTD, hTS, Int.toNat_natCast]; omega)) (by simp only [zad, Int.toNat_natCast]; rw [show 0 + G * 1 = G by omega])) wY wc (by simp only [zby, zad]; omega) hpt hS rfl))).trans ?_
   refine (if_pos (by simp only [zah, Nat.zero_add, Nat.mul_one]; exact Nat.min_le_left _ _)).trans ?_
   refine (if_neg (by simp only [zad, Int.toNat_natCast, hTS]; simp)).trans ?_
   refine (if_pos (by first | omega | (simp only [zad, zaz, zah, zak, hTD, hTS, Int.toNat_natCast]; omega))).trans ?_
   refine (if_pos ⟨by simp only [zad, Int.toNat_natCast, hTD, hTS, zah, zak]; omega, by simp only [zad, Int.toNat_natCast, hTD, hTS]; simp⟩).trans ?_
   refine (if_pos (AV.beq_self _)).trans ?_
   rfl
 · have e1 : (zdu l A (b :: D)).length = l.length := zcl (by omega)
   have e2 : (zdu (zdu l A (b :: D)) G (c :: S)).length = l.length := by rw [zcl (by omega), e1]
   refine .tup _ _ _ _ _ (.cons _ [some 3] [] _ _ _ _ [zbo (zdu (zdu l A (b :: D)) G (c :: S))] [] (zu8 (l := zdu (zdu l A (b :: D)) G (c :: S)) (by decide) rfl ?_ ?_ ?_ ?_) (.cons _ [] [] _ _ _ _ [] [] (.flat _ _ rfl) (.nil _)))
   · simp only [zad, Int.toNat_natCast, hTD, hTS]
     rw [show 0 + A * 1 = A by omega, show 0 + G * 1 = G by omega, zc0 (by omega), zc0 (by omega)]
   · omega
   · omega
   · rw [List.drop_zero, ← e2, List.take_length]

theorem zxE (l D S : List UInt8) (b c : UInt8) (p sp dp fl pt : Int) (A G E : Nat) (hl : E ≤ l.length ∧ l.length ≤ 65535) (h1 : A < G ∧ G < E) (U V cs : List AV) (wX : zas U = true) (wY : zas V = true) (wc : zas cs = true) (hv6 : za8 cs = false) (hval : zbd cs = true) (hv : zci l = .tup [.agg (zaO false A G E p U V sp dp fl), .int .i64 0]) (hz : pt = 0) (hpt : 0 ≤ dp ∧ dp < 65536)
 (hD : zc6 ((l.drop A).take (E - A)) cs = b :: D) (hDl : (b :: D).length = E - A) (hS : zdL p ((l.drop G).take (E - G)) dp V cs = c :: S) (hSl : (c :: S).length = E - G) :
 ∃ v1 h1, Runs Try.prog 8 [slB 0 l, .agg (cs ++ [.int .u16 pt])] [zaC l] v1 h1 ∧ ∃ ks, ∀ K, Den h1 1 K ks v1 (.tup [slB K (zdu (zdu l A (b :: D)) G (c :: S)), .bool true]) [zbo (zdu (zdu l A (b :: D)) G (c :: S))] ∧ zkX ks := by
 obtain ⟨wx, x, rfl⟩ := zbK wX
 obtain ⟨wy, y, rfl⟩ := zbK wY
 obtain ⟨w, z, rfl⟩ := zbK wc
 obtain rfl : w = false := hv6
 have hTD : List.take ((b :: D).length.min (l.length - A) * 1) (bys (b :: D)) = bys (b :: D) := by
  refine List.take_of_length_le ?_
  rw [zah, hDl]; show E - A ≤ min (E - A) (l.length - A) * 1; omega
 have hTS : List.take ((c :: S).length.min (l.length - G) * 1) (bys (c :: S)) = bys (c :: S) := by
  refine List.take_of_length_le ?_
  rw [zah, hSl]; show E - G ≤ min (E - G) (l.length - G) * 1; omega
 refine ⟨(AV.tup [AV.sl (some (3, 0)) l.length 0 false, AV.bool true]), (zsO l D S b c false wx wy (A : Int) (G : Int) (E : Int) p sp dp fl pt x y z), Runs.ofT0 (znh l (b :: D) (c :: S) (.tup [.agg (zaO false A G E p (adF wx x) (adF wy y) sp dp fl), .int .i64 0])) (F := 100) (n := 5) (pr := [(34, .bool true)]) ?_, [some 3], fun K => ⟨?_, zdJ _⟩⟩
 · refine (zAB l D S b c false wx wy A G E p sp dp fl pt x y z _).trans ?_
   refine (if_pos (zab.2 (zc8 (zam rfl rfl rfl) (by show l.length ≤ _; omega) hv))).trans ?_
   refine (if_neg (by decide)).trans ?_
   refine (if_pos (zab.2 (zgl wc))).trans ?_
   refine (if_neg (by rw [zjr]; show ¬ (!zbd (adF false z)) = true; rw [hval]; decide)).trans ?_
   refine (if_pos (by simp only [zad]; simp; omega)).trans ?_
   refine (if_pos (zab.2 (zeb (zam rfl rfl rfl) (by show l.length ≤ _; omega) rfl))).trans ?_
   refine (if_pos (by first | omega | (simp only [zad, zaz, zah, zak, hTD, hTS, Int.toNat_natCast]; omega))).trans ?_
   refine (if_pos (by first | omega | (simp only [zad, zaz, zah, zak, hTD, hTS, Int.toNat_natCast]; omega))).trans ?_
   refine (if_pos (by first | omega | (simp only [zad, zaz, zah, zak, hTD, hTS, Int.toNat_natCast]; omega))).trans ?_
   refine (if_pos (zab.2 (zwk (l := (l.drop A).take (E - A)) (zbf (l := l) rfl rfl (by first | omega | (simp only [zad, zaz, zah, zak, hTD, hTS, Int.toNat_natCast]; omega)) (by simp only [zad, Int.toNat_natCast]; rw [show 0 + A * 1 = A by omega])) (by simp only [zby, zad]; omega) wc hD rfl))).trans ?_
   refine (if_pos (by simp only [zah, Nat.zero_add, Nat.mul_one]; exact Nat.min_le_left _ _)).trans ?_
   refine (if_neg (by simp only [zad, Int.toNat_natCast, hTD]; simp)).trans ?_
   refine (if_pos (by first | omega | (simp only [zad, zaz, zah, zak, hTD, hTS, Int.toNat_natCast]; omega))).trans ?_
   refine (if_pos ⟨by simp only [zad, Int.toNat_natCast, hTD, hTS, zah, zak]; omega, by simp only [zad, Int.toNat_natCast, hTD, hTS]; simp⟩).trans ?_
   refine (if_pos (AV.beq_self _)).trans ?_
   refine (if_pos (by first | omega | (simp only [zad, zaz, zah, zak, hTD, hTS, Int.toNat_natCast]; omega))).trans ?_
   refine (if_pos (by first | omega | (simp only [zad, zaz, zah, zak, hTD, hTS, Int.toNat_natCast]; omega))).trans ?_
   refine (if_pos (by first | omega | (simp only [zad, zaz, zah, zak, hTD, hTS, Int.toNat_natCast]; omega))).trans ?_
   refine (if_pos (zab.2 (zlA (cs := adF wy y) (ds := adF false z) (l := (l.drop G).take (E - G)) (zbf (l := l) rfl rfl (by first | omega | (simp only [zad, zaz, zah, zak, hTD, hTS, Int.toNat_natCast]; omega)) (by simp only [zad, Int.toNat_natCast]; rw [show 0 + G * 1 = G by omega])) wY wc (by simp only [zby, zad]; omega) hpt hS rfl))).trans ?_
   refine (if_pos (by simp only [zah, Nat.zero_add, Nat.mul_one]; exact Nat.min_le_left _ _)).trans ?_
   refine (if_neg (by simp only [zad, Int.toNat_natCast, hTS]; simp)).trans ?_
   refine (if_pos (by first | omega | (simp only [zad, zaz, zah, zak, hTD, hTS, Int.toNat_natCast]; omega))).trans ?_
   refine (if_pos ⟨by simp only [zad, Int.toNat_natCast, hTD, hTS, zah, zak]; omega, by simp only [zad, Int.toNat_natCast, hTD, hTS]; simp⟩).trans ?_
   refine (if_pos (AV.beq_self _)).trans ?_
   rfl
 · have e1 : (zdu l A (b :: D)).length = l.length := zcl (by omega)
   have e2 : (zdu (zdu l A (b :: D)) G (c :: S)).length = l.length := by rw [zcl (by omega), e1]
   refine .tup _ _ _ _ _ (.cons _ [some 3] [] _ _ _ _ [zbo (zdu (zdu l A (b :: D)) G (c :: S))] [] (zu8 (l := zdu (zdu l A (b :: D)) G (c :: S)) (by decide) rfl ?_ ?_ ?_ ?_) (.cons _ [] [] _ _ _ _ [] [] (.flat _ _ rfl) (.nil _)))
   · simp only [zad, Int.toNat_natCast, hTD, hTS]
     rw [show 0 + A * 1 = A by omega, show 0 + G * 1 = G by omega, zc0 (by omega), zc0 (by omega)]
   · omega
   · omega
   · rw [List.drop_zero, ← e2, List.take_length]

theorem zyp (l D S : List UInt8) (b c : UInt8) (p sp dp fl pt : Int) (A G E : Nat) (hl : E ≤ l.length ∧ l.length ≤ 65535) (h1 : A < G ∧ G < E) (U V cs : List AV) (wX : zas U = true) (wY : zas V = true) (wc : zas cs = true) (hv6 : za8 cs = true) (hval : zbd cs = true) (hv : zci l = .tup [.agg (zaO true A G E p U V sp dp fl), .int .i64 0]) (hz : pt ≠ 0) (hpt : 0 ≤ pt ∧ pt < 65536)
 (hD : zdw ((l.drop A).take (E - A)) cs = b :: D) (hDl : (b :: D).length = E - A) (hS : zdL p ((l.drop G).take (E - G)) pt V cs = c :: S) (hSl : (c :: S).length = E - G) :
 ∃ v1 h1, Runs Try.prog 8 [slB 0 l, .agg (cs ++ [.int .u16 pt])] [zaC l] v1 h1 ∧ ∃ ks, ∀ K, Den h1 1 K ks v1 (.tup [slB K (zdu (zdu l A (b :: D)) G (c :: S)), .bool true]) [zbo (zdu (zdu l A (b :: D)) G (c :: S))] ∧ zkX ks := by
 obtain ⟨wx, x, rfl⟩ := zbK wX
 obtain ⟨wy, y, rfl⟩ := zbK wY
 obtain ⟨w, z, rfl⟩ := zbK wc
 obtain rfl : w = true := hv6
 have hTD : List.take ((b :: D).length.min (l.length - A) * 1) (bys (b :: D)) = bys (b :: D) := by
  refine List.take_of_length_le ?_
  rw [zah, hDl]; show E - A ≤ min (E - A) (l.length - A) * 1; omega
 have hTS : List.take ((c :: S).length.min (l.length - G) * 1) (bys (c :: S)) = bys (c :: S) := by
  refine List.take_of_length_le ?_
  rw [zah, hSl]; show E - G ≤ min (E - G) (l.length - G) * 1; omega
 refine ⟨(AV.tup [AV.sl (some (3, 0)) l.length 0 false, AV.bool true]), (znc l D S b c true wx wy (A : Int) (G : Int) (E : Int) p sp dp fl pt x y z), Runs.ofT0 (znh l (b :: D) (c :: S) (.tup [.agg (zaO true A G E p (adF wx x) (adF wy y) sp dp fl), .int .i64 0])) (F := 100) (n := 5) (pr := [(34, .bool false)]) ?_, [some 3], fun K => ⟨?_, zdJ _⟩⟩
 · refine (zwI l D S b c true wx wy A G E p sp dp fl pt x y z _).trans ?_
   refine (if_pos (zab.2 (zc8 (zam rfl rfl rfl) (by show l.length ≤ _; omega) hv))).trans ?_
   refine (if_neg (by decide)).trans ?_
   refine (if_pos (zab.2 (zgl wc))).trans ?_
   refine (if_neg (by rw [zjr]; show ¬ (!zbd (adF true z)) = true; rw [hval]; decide)).trans ?_
   refine (if_pos (by simp only [zad]; simp; omega)).trans ?_
   refine (if_pos (zab.2 (zeb (zam rfl rfl rfl) (by show l.length ≤ _; omega) rfl))).trans ?_
   refine (if_pos (by first | omega | (simp only [zad, zaz, zah, zak, hTD, hTS, Int.toNat_natCast]; omega))).trans ?_
   refine (if_pos (by first | omega | (simp only [zad, zaz, zah, zak, hTD, hTS, Int.toNat_natCast]; omega))).trans ?_
   refine (if_pos (by first | omega | (simp only [zad, zaz, zah, zak, hTD, hTS, Int.toNat_natCast]; omega))).trans ?_
   refine (if_pos (zab.2 (zwd (l := (l.drop A).take (E - A)) (zbf (l := l) rfl rfl (by first | omega | (simp only [zad, zaz, zah, zak, hTD, hTS, Int.toNat_natCast]; omega)) (by simp only [zad, Int.toNat_natCast]; rw [show 0 + A * 1 = A by omega])) (by simp only [zby, zad]; omega) wc hD rfl))).trans ?_
   refine (if_pos (by simp only [zah, Nat.zero_add, Nat.mul_one]; exact Nat.min_le_left _ _)).trans ?_
   refine (if_neg (by simp only [zad, Int.toNat_natCast, hTD]; simp)).trans ?_
   refine (if_pos (by first | omega | (simp only [zad, zaz, zah, zak, hTD, hTS, Int.toNat_natCast]; omega))).trans ?_
   refine (if_pos ⟨by simp only [zad, Int.toNat_natCast, hTD, hTS, zah, zak]; omega, by simp only [zad, Int.toNat_natCast, hTD, hTS]; simp⟩).trans ?_
   refine (if_pos (AV.beq_self _)).trans ?_
   refine (if_pos (by first | omega | (simp only [zad, zaz, zah, zak, hTD, hTS, Int.toNat_natCast]; omega))).trans ?_
   refine (if_pos (by first | omega | (simp only [zad, zaz, zah, zak, hTD, hTS, Int.toNat_natCast]; omega))).trans ?_
   refine (if_pos (by first | omega | (simp only [zad, zaz, zah, zak, hTD, hTS, Int.toNat_natCast]; omega))).trans ?_
   refine (if_pos (zab.2 (zlA (cs := adF wy y) (ds := adF true z) (l := (l.drop G).take (E - G)) (zbf (l := l) rfl rfl (by first | omega | (simp only [zad, zaz, zah, zak, hTD, hTS, Int.toNat_natCast]; omega)) (by simp only [zad, Int.toNat_natCast]; rw [show 0 + G * 1 = G by omega])) wY wc (by simp only [zby, zad]; omega) hpt hS rfl))).trans ?_
   refine (if_pos (by simp only [zah, Nat.zero_add, Nat.mul_one]; exact Nat.min_le_left _ _)).trans ?_
   refine (if_neg (by simp only [zad, Int.toNat_natCast, hTS]; simp)).trans ?_
   refine (if_pos (by first | omega | (simp only [zad, zaz, zah, zak, hTD, hTS, Int.toNat_natCast]; omega))).trans ?_
   refine (if_pos ⟨by simp only [zad, Int.toNat_natCast, hTD, hTS, zah, zak]; omega, by simp only [zad, Int.toNat_natCast, hTD, hTS]; simp⟩).trans ?_
   refine (if_pos (AV.beq_self _)).trans ?_
   rfl
 · have e1 : (zdu l A (b :: D)).length = l.length := zcl (by omega)
   have e2 : (zdu (zdu l A (b :: D)) G (c :: S)).length = l.length := by rw [zcl (by omega), e1]
   refine .tup _ _ _ _ _ (.cons _ [some 3] [] _ _ _ _ [zbo (zdu (zdu l A (b :: D)) G (c :: S))] [] (zu8 (l := zdu (zdu l A (b :: D)) G (c :: S)) (by decide) rfl ?_ ?_ ?_ ?_) (.cons _ [] [] _ _ _ _ [] [] (.flat _ _ rfl) (.nil _)))
   · simp only [zad, Int.toNat_natCast, hTD, hTS]
     rw [show 0 + A * 1 = A by omega, show 0 + G * 1 = G by omega, zc0 (by omega), zc0 (by omega)]
   · omega
   · omega
   · rw [List.drop_zero, ← e2, List.take_length]

theorem zxR (l D S : List UInt8) (b c : UInt8) (p sp dp fl pt : Int) (A G E : Nat) (hl : E ≤ l.length ∧ l.length ≤ 65535) (h1 : A < G ∧ G < E) (U V cs : List AV) (wX : zas U = true) (wY : zas V = true) (wc : zas cs = true) (hv6 : za8 cs = true) (hval : zbd cs = true) (hv : zci l = .tup [.agg (zaO true A G E p U V sp dp fl), .int .i64 0]) (hz : pt = 0) (hpt : 0 ≤ dp ∧ dp < 65536)
 (hD : zdw ((l.drop A).take (E - A)) cs = b :: D) (hDl : (b :: D).length = E - A) (hS : zdL p ((l.drop G).take (E - G)) dp V cs = c :: S) (hSl : (c :: S).length = E - G) :
 ∃ v1 h1, Runs Try.prog 8 [slB 0 l, .agg (cs ++ [.int .u16 pt])] [zaC l] v1 h1 ∧ ∃ ks, ∀ K, Den h1 1 K ks v1 (.tup [slB K (zdu (zdu l A (b :: D)) G (c :: S)), .bool true]) [zbo (zdu (zdu l A (b :: D)) G (c :: S))] ∧ zkX ks := by
 obtain ⟨wx, x, rfl⟩ := zbK wX
 obtain ⟨wy, y, rfl⟩ := zbK wY
 obtain ⟨w, z, rfl⟩ := zbK wc
 obtain rfl : w = true := hv6
 have hTD : List.take ((b :: D).length.min (l.length - A) * 1) (bys (b :: D)) = bys (b :: D) := by
  refine List.take_of_length_le ?_
  rw [zah, hDl]; show E - A ≤ min (E - A) (l.length - A) * 1; omega
 have hTS : List.take ((c :: S).length.min (l.length - G) * 1) (bys (c :: S)) = bys (c :: S) := by
  refine List.take_of_length_le ?_
  rw [zah, hSl]; show E - G ≤ min (E - G) (l.length - G) * 1; omega
 refine ⟨(AV.tup [AV.sl (some (3, 0)) l.length 0 false, AV.bool true]), (ztn l D S b c true wx wy (A : Int) (G : Int) (E : Int) p sp dp fl pt x y z), Runs.ofT0 (znh l (b :: D) (c :: S) (.tup [.agg (zaO true A G E p (adF wx x) (adF wy y) sp dp fl), .int .i64 0])) (F := 100) (n := 5) (pr := [(34, .bool true)]) ?_, [some 3], fun K => ⟨?_, zdJ _⟩⟩
 · refine (zzg l D S b c true wx wy A G E p sp dp fl pt x y z _).trans ?_
   refine (if_pos (zab.2 (zc8 (zam rfl rfl rfl) (by show l.length ≤ _; omega) hv))).trans ?_
   refine (if_neg (by decide)).trans ?_
   refine (if_pos (zab.2 (zgl wc))).trans ?_
   refine (if_neg (by rw [zjr]; show ¬ (!zbd (adF true z)) = true; rw [hval]; decide)).trans ?_
   refine (if_pos (by simp only [zad]; simp; omega)).trans ?_
   refine (if_pos (zab.2 (zeb (zam rfl rfl rfl) (by show l.length ≤ _; omega) rfl))).trans ?_
   refine (if_pos (by first | omega | (simp only [zad, zaz, zah, zak, hTD, hTS, Int.toNat_natCast]; omega))).trans ?_
   refine (if_pos (by first | omega | (simp only [zad, zaz, zah, zak, hTD, hTS, Int.toNat_natCast]; omega))).trans ?_
   refine (if_pos (by first | omega | (simp only [zad, zaz, zah, zak, hTD, hTS, Int.toNat_natCast]; omega))).trans ?_
   refine (if_pos (zab.2 (zwd (l := (l.drop A).take (E - A)) (zbf (l := l) rfl rfl (by first | omega | (simp only [zad, zaz, zah, zak, hTD, hTS, Int.toNat_natCast]; omega)) (by simp only [zad, Int.toNat_natCast]; rw [show 0 + A * 1 = A by omega])) (by simp only [zby, zad]; omega) wc hD rfl))).trans ?_
   refine (if_pos (by simp only [zah, Nat.zero_add, Nat.mul_one]; exact Nat.min_le_left _ _)).trans ?_
   refine (if_neg (by simp only [zad, Int.toNat_natCast, hTD]; simp)).trans ?_
   refine (if_pos (by first | omega | (simp only [zad, zaz, zah, zak, hTD, hTS, Int.toNat_natCast]; omega))).trans ?_
   refine (if_pos ⟨by simp only [zad, Int.toNat_natCast, hTD, hTS, zah, zak]; omega, by simp only [zad, Int.toNat_natCast, hTD, hTS]; simp⟩).trans ?_
   refine (if_pos (AV.beq_self _)).trans ?_
   refine (if_pos (by first | omega | (simp only [zad, zaz, zah, zak, hTD, hTS, Int.toNat_natCast]; omega))).trans ?_
   refine (if_pos (by first | omega | (simp only [zad, zaz, zah, zak, hTD, hTS, Int.toNat_natCast]; omega))).trans ?_
   refine (if_pos (by first | omega | (simp only [zad, zaz, zah, zak, hTD, hTS, Int.toNat_natCast]; omega))).trans ?_
   refine (if_pos (zab.2 (zlA (cs := adF wy y) (ds := adF true z) (l := (l.drop G).take (E - G)) (zbf (l := l) rfl rfl (by first | omega | (simp only [zad, zaz, zah, zak, hTD, hTS, Int.toNat_natCast]; omega)) (by simp only [zad, Int.toNat_natCast]; rw [show 0 + G * 1 = G by omega])) wY wc (by simp only [zby, zad]; omega) hpt hS rfl))).trans ?_
   refine (if_pos (by simp only [zah, Nat.zero_add, Nat.mul_one]; exact Nat.min_le_left _ _)).trans ?_
   refine (if_neg (by simp only [zad, Int.toNat_natCast, hTS]; simp)).trans ?_
   refine (if_pos (by first | omega | (simp only [zad, zaz, zah, zak, hTD, hTS, Int.toNat_natCast]; omega))).trans ?_
   refine (if_pos ⟨by simp only [zad, Int.toNat_natCast, hTD, hTS, zah, zak]; omega, by simp only [zad, Int.toNat_natCast, hTD, hTS]; simp⟩).trans ?_
   refine (if_pos (AV.beq_self _)).trans ?_
   rfl
 · have e1 : (zdu l A (b :: D)).length = l.length := zcl (by omega)
   have e2 : (zdu (zdu l A (b :: D)) G (c :: S)).length = l.length := by rw [zcl (by omega), e1]
   refine .tup _ _ _ _ _ (.cons _ [some 3] [] _ _ _ _ [zbo (zdu (zdu l A (b :: D)) G (c :: S))] [] (zu8 (l := zdu (zdu l A (b :: D)) G (c :: S)) (by decide) rfl ?_ ?_ ?_ ?_) (.cons _ [] [] _ _ _ _ [] [] (.flat _ _ rfl) (.nil _)))
   · simp only [zad, Int.toNat_natCast, hTD, hTS]
     rw [show 0 + A * 1 = A by omega, show 0 + G * 1 = G by omega, zc0 (by omega), zc0 (by omega)]
   · omega
   · omega
   · rw [List.drop_zero, ← e2, List.take_length]

theorem zAq (l : List UInt8) (A G E p sp dp fl pt : Int) (hl : l.length ≤ 65535) (U V cs : List AV) (wX : zas U = true) (wY : zas V = true) (wc : zas cs = true) (hb : za8 cs ≠ false ∨ zbd cs = false) (hv : zci l = .tup [.agg (zaO false A G E p U V sp dp fl), .int .i64 0]) :
 ∃ h1, Runs Try.prog 8 [slB 0 l, .agg (cs ++ [.int .u16 pt])] [zaC l] (.tup [.sl none 0 0 true, .bool false]) h1 := by
 obtain ⟨wx, x, rfl⟩ := zbK wX
 obtain ⟨wy, y, rfl⟩ := zbK wY
 obtain ⟨w, z, rfl⟩ := zbK wc
 refine Runs.valT0 (znh l [0] [0] (.tup [.agg (zaO false A G E p (adF wx x) (adF wy y) sp dp fl), .int .i64 0])) (F := 100) (n := 5) (pr := [(34, .bool false)]) ?_
 refine (zwq l [] [] 0 0 w wx wy A G E p sp dp fl pt x y z _).trans ?_
 refine (if_pos (zab.2 (zc8 (zam rfl rfl rfl) (by show l.length ≤ _; omega) hv))).trans ?_
 by_cases hw : w = false
 · subst hw
   refine (if_neg (by decide)).trans ?_
   refine (if_pos (zab.2 (zgl wc))).trans ?_
   have hval := hb.resolve_left (fun h => h rfl)
   exact if_pos (by rw [zjr]; show (!zbd (adF false z)) = true; rw [hval]; rfl)
 · exact if_pos (by cases w <;> first | rfl | exact absurd rfl hw)

theorem zAr (l : List UInt8) (A G E p sp dp fl pt : Int) (hl : l.length ≤ 65535) (U V cs : List AV) (wX : zas U = true) (wY : zas V = true) (wc : zas cs = true) (hb : za8 cs ≠ true ∨ zbd cs = false) (hv : zci l = .tup [.agg (zaO true A G E p U V sp dp fl), .int .i64 0]) :
 ∃ h1, Runs Try.prog 8 [slB 0 l, .agg (cs ++ [.int .u16 pt])] [zaC l] (.tup [.sl none 0 0 true, .bool false]) h1 := by
 obtain ⟨wx, x, rfl⟩ := zbK wX
 obtain ⟨wy, y, rfl⟩ := zbK wY
 obtain ⟨w, z, rfl⟩ := zbK wc
 refine Runs.valT0 (znh l [0] [0] (.tup [.agg (zaO true A G E p (adF wx x) (adF wy y) sp dp fl), .int .i64 0])) (F := 100) (n := 5) (pr := [(34, .bool false)]) ?_
 refine (zwI l [] [] 0 0 w wx wy A G E p sp dp fl pt x y z _).trans ?_
 refine (if_pos (zab.2 (zc8 (zam rfl rfl rfl) (by show l.length ≤ _; omega) hv))).trans ?_
 by_cases hw : w = true
 · subst hw
   refine (if_neg (by decide)).trans ?_
   refine (if_pos (zab.2 (zgl wc))).trans ?_
   have hval := hb.resolve_left (fun h => h rfl)
   exact if_pos (by rw [zjr]; show (!zbd (adF true z)) = true; rw [hval]; rfl)
 · exact if_pos (by cases w <;> first | rfl | exact absurd rfl hw)

theorem zBu (l : List UInt8) (r pt : Int) (hl : l.length ≤ 1000000000000) (cs : List AV) (wc : zas cs = true) (hr : zb9 l = r) (h0 : r ≠ 0) :
 ∃ h1, Runs Try.prog 8 [slB 0 l, .agg (cs ++ [.int .u16 pt])] [zaC l] (.tup [.sl none 0 0 true, .bool false]) h1 := by
 obtain ⟨w, z, rfl⟩ := zbK wc
 refine Runs.valT0 (znh l [] [] (.tup [.agg zl1, .int .i64 r])) (F := 100) (n := 5) (pr := []) ?_
 refine (zBy l w r pt z _).trans ?_
 refine (if_pos (zab.2 (zc8 (zam rfl rfl rfl) hl (zdg hr h0)))).trans ?_
 exact if_pos (by simpa using h0)

end Go.Proofs.Ytnchnjkakddhlaa.L
