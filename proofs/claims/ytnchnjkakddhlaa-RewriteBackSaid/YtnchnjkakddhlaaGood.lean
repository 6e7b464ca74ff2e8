/- seg's Good, and the reference's: what they yield. -/
import Derived.Test.YtnchnjkakddhlaaSeg3
set_option autoImplicit false
set_option maxRecDepth 100000
set_option linter.unusedVariables false
set_option linter.unusedSimpArgs false
namespace Go.Proofs.Ytnchnjkakddhlaa.L
open Go Go.Abs

theorem zl7 (p n : Int) (v : Bool) (X Y : List UInt8) (hX : X.length = 16) (hY : Y.length = 16) : (zav p n (.bool v :: bys X) (.bool v :: bys Y)).length = if v then 40 else 12 := by
 unfold zav
 cases v <;> simp [zcF, zbY, za8, hX, hY, zc9, zdi]
theorem zoY (a0 a1 a2 a3 b0 b1 b2 b3 : UInt8) (l X Y : List UInt8) (s2 : Int) (hl : l.length ≤ 1000000000000) (hX : X.length = 16) (hY : Y.length = 16) (hr : zbW 6 l = 0) (hA : zag (.bool false :: bys X) = [a0, a1, a2, a3]) (hB : zag (.bool false :: bys Y) = [b0, b1, b2, b3]) (h2 : zfX ((zav 6 l.length (.bool false :: bys X) (.bool false :: bys Y)) ++ l) 0 = s2) :
 ∃ h1, Runs Try.prog 38 [.int .u8 6, slB 0 l, .agg (.bool false :: bys X), .agg (.bool false :: bys Y)] [zaC l] (.bool (decide (s2 = 65535))) h1 := by
 have hn : 20 ≤ l.length := by rcases zcx hr with h | h <;> omega
 have hwX : zas (List.take 17 (AV.bool false :: bys X)) = true := by rw [zaW hX]; exact zaK hX
 have hwY : zas (List.take 17 (AV.bool false :: bys Y)) = true := by rw [zaW hY]; exact zaK hY
 have hAX : zag (List.take 17 (AV.bool false :: bys X)) = [a0, a1, a2, a3] := by rw [zaW hX]; exact hA
 have hBY : zag (List.take 17 (AV.bool false :: bys Y)) = [b0, b1, b2, b3] := by rw [zaW hY]; exact hB
 have f1 : ∀ x : Int, IntKind.u8.wrap x = ((u8i x).toNat : Int) := fun x => zaH x
 have hcell : ([AV.int IntKind.u8 (a0.toNat : Int), AV.int IntKind.u8 (a1.toNat : Int), AV.int IntKind.u8 (a2.toNat : Int), AV.int IntKind.u8 (a3.toNat : Int), AV.int IntKind.u8 (b0.toNat : Int), AV.int IntKind.u8 (b1.toNat : Int), AV.int IntKind.u8 (b2.toNat : Int), AV.int IntKind.u8 (b3.toNat : Int), AV.int IntKind.u8 0, AV.int IntKind.u8 6, AV.int IntKind.u8 (IntKind.u8.wrap (((l.length : Int)).fdiv 256)), AV.int IntKind.u8 (IntKind.u8.wrap (l.length : Int))] ++ List.take (l.length * 1) (bys l)) = bys ((zav 6 l.length (.bool false :: bys X) (.bool false :: bys Y)) ++ l) := by
  unfold zav
  rw [hA, hB, zb6]
  simp only [f1]
  rw [if_neg (by simp [za8])]
  have e8 : ((l.length : Int)).fdiv 1 = (l.length : Int) := by rw [Int.fdiv_eq_ediv_of_nonneg _ (by omega), Int.ediv_one]
  rw [zc9, e8]; rfl
 refine Runs.valT0 (ze6 10 [a0, a1, a2, a3] [b0, b1, b2, b3] (rd7 (zan l 0) (zan l 2) (zca 6 l)) (zan l 16) s2) (F := 100) (n := 4) (pr := [(20, .bool false), (26, .bool false)]) ?_
 refine (zrS a0 a1 a2 a3 b0 b1 b2 b3 l [] X Y false false (zan l 0) (zan l 16) (zan l 2) (zca 6 l) 0 s2 _).trans ?_
 refine (if_pos (zab.2 (zc3 (zam rfl rfl rfl) hl (zbP hr).2))).trans ?_
 refine (if_pos (by simp [hX, hY])).trans ?_
 refine (if_pos (zab.2 (zaT hwX hAX rfl))).trans ?_
 refine (if_pos (by simp [hX, hY])).trans ?_
 refine (if_pos (zab.2 (zaT hwY hBY rfl))).trans ?_
 refine (if_pos (by simp [hX, hY])).trans ?_
 refine (if_pos (AV.beq_self _)).trans ?_
 refine (if_pos (by first | exact True.intro | rfl | omega | (simp; done) | (simp; omega) | (simp [zai]; done) | (simp [zai]; omega))).trans ?_
 refine (if_pos (by first | exact True.intro | rfl | omega | (simp; done) | (simp; omega) | (simp [zai]; done) | (simp [zai]; omega))).trans ?_
 refine (if_pos (by first | exact True.intro | rfl | omega | (simp; done) | (simp; omega) | (simp [zai]; done) | (simp [zai]; omega))).trans ?_
 refine (if_pos (zab.2 (zdE (l := (zav 6 l.length (.bool false :: bys X) (.bool false :: bys Y)) ++ l) (zam rfl hcell (by simp [zav, hA, hB, za8, zc9, zdi] <;> omega)) (by simp <;> omega) h2))).trans ?_
 rfl

theorem zo2 (a0 a1 a2 a3 a4 a5 a6 a7 a8 a9 a10 a11 a12 a13 a14 a15 b0 b1 b2 b3 b4 b5 b6 b7 b8 b9 b10 b11 b12 b13 b14 b15 : UInt8) (l X Y : List UInt8) (s2 : Int) (hl : l.length ≤ 1000000000000) (hX : X.length = 16) (hY : Y.length = 16) (hr : zbW 6 l = 0) (hA : zag (.bool true :: bys X) = [a0, a1, a2, a3, a4, a5, a6, a7, a8, a9, a10, a11, a12, a13, a14, a15]) (hB : zag (.bool true :: bys Y) = [b0, b1, b2, b3, b4, b5, b6, b7, b8, b9, b10, b11, b12, b13, b14, b15]) (h2 : zfX ((zav 6 l.length (.bool true :: bys X) (.bool true :: bys Y)) ++ l) 0 = s2) :
 ∃ h1, Runs Try.prog 38 [.int .u8 6, slB 0 l, .agg (.bool true :: bys X), .agg (.bool true :: bys Y)] [zaC l] (.bool (decide (s2 = 65535))) h1 := by
 have hn : 20 ≤ l.length := by rcases zcx hr with h | h <;> omega
 have hwX : zas (List.take 17 (AV.bool true :: bys X)) = true := by rw [zaW hX]; exact zaK hX
 have hwY : zas (List.take 17 (AV.bool true :: bys Y)) = true := by rw [zaW hY]; exact zaK hY
 have hAX : zag (List.take 17 (AV.bool true :: bys X)) = [a0, a1, a2, a3, a4, a5, a6, a7, a8, a9, a10, a11, a12, a13, a14, a15] := by rw [zaW hX]; exact hA
 have hBY : zag (List.take 17 (AV.bool true :: bys Y)) = [b0, b1, b2, b3, b4, b5, b6, b7, b8, b9, b10, b11, b12, b13, b14, b15] := by rw [zaW hY]; exact hB
 have f1 : ∀ x : Int, IntKind.u8.wrap x = ((u8i x).toNat : Int) := fun x => zaH x
 have hcell : ([AV.int IntKind.u8 (a0.toNat : Int), AV.int IntKind.u8 (a1.toNat : Int), AV.int IntKind.u8 (a2.toNat : Int), AV.int IntKind.u8 (a3.toNat : Int), AV.int IntKind.u8 (a4.toNat : Int), AV.int IntKind.u8 (a5.toNat : Int), AV.int IntKind.u8 (a6.toNat : Int), AV.int IntKind.u8 (a7.toNat : Int), AV.int IntKind.u8 (a8.toNat : Int), AV.int IntKind.u8 (a9.toNat : Int), AV.int IntKind.u8 (a10.toNat : Int), AV.int IntKind.u8 (a11.toNat : Int), AV.int IntKind.u8 (a12.toNat : Int), AV.int IntKind.u8 (a13.toNat : Int), AV.int IntKind.u8 (a14.toNat : Int), AV.int IntKind.u8 (a15.toNat : Int), AV.int IntKind.u8 (b0.toNat : Int), AV.int IntKind.u8 (b1.toNat : Int), AV.int IntKind.u8 (b2.toNat : Int), AV.int IntKind.u8 (b3.toNat : Int), AV.int IntKind.u8 (b4.toNat : Int), AV.int IntKind.u8 (b5.toNat : Int), AV.int IntKind.u8 (b6.toNat : Int), AV.int IntKind.u8 (b7.toNat : Int), AV.int IntKind.u8 (b8.toNat : Int), AV.int IntKind.u8 (b9.toNat : Int), AV.int IntKind.u8 (b10.toNat : Int), AV.int IntKind.u8 (b11.toNat : Int), AV.int IntKind.u8 (b12.toNat : Int), AV.int IntKind.u8 (b13.toNat : Int), AV.int IntKind.u8 (b14.toNat : Int), AV.int IntKind.u8 (b15.toNat : Int), AV.int IntKind.u8 (IntKind.u8.wrap (((l.length : Int)).fdiv 16777216)), AV.int IntKind.u8 (IntKind.u8.wrap (((l.length : Int)).fdiv 65536)), AV.int IntKind.u8 (IntKind.u8.wrap (((l.length : Int)).fdiv 256)), AV.int IntKind.u8 (IntKind.u8.wrap (l.length : Int)), AV.int IntKind.u8 0, AV.int IntKind.u8 0, AV.int IntKind.u8 0, AV.int IntKind.u8 6] ++ List.take (l.length * 1) (bys l)) = bys ((zav 6 l.length (.bool true :: bys X) (.bool true :: bys Y)) ++ l) := by
  unfold zav
  rw [hA, hB, zb6]
  simp only [f1]
  rw [if_pos (show za8 (AV.bool true :: bys X) = true by simp [za8])]
  have e8 : ((l.length : Int)).fdiv 1 = (l.length : Int) := by rw [Int.fdiv_eq_ediv_of_nonneg _ (by omega), Int.ediv_one]
  rw [zdi, e8]; rfl
 refine Runs.valT0 (ze6 10 [a0, a1, a2, a3, a4, a5, a6, a7, a8, a9, a10, a11, a12, a13, a14, a15] [b0, b1, b2, b3, b4, b5, b6, b7, b8, b9, b10, b11, b12, b13, b14, b15] (rd7 (zan l 0) (zan l 2) (zca 6 l)) (zan l 16) s2) (F := 100) (n := 4) (pr := [(20, .bool false), (26, .bool false)]) ?_
 refine (zrR a0 a1 a2 a3 a4 a5 a6 a7 a8 a9 a10 a11 a12 a13 a14 a15 b0 b1 b2 b3 b4 b5 b6 b7 b8 b9 b10 b11 b12 b13 b14 b15 l [] X Y false false (zan l 0) (zan l 16) (zan l 2) (zca 6 l) 0 s2 _).trans ?_
 refine (if_pos (zab.2 (zc3 (zam rfl rfl rfl) hl (zbP hr).2))).trans ?_
 refine (if_pos (by simp [hX, hY])).trans ?_
 refine (if_pos (zab.2 (zaT hwX hAX rfl))).trans ?_
 refine (if_pos (by simp [hX, hY])).trans ?_
 refine (if_pos (zab.2 (zaT hwY hBY rfl))).trans ?_
 refine (if_pos (by simp [hX, hY])).trans ?_
 refine (if_pos (AV.beq_self _)).trans ?_
 refine (if_pos (by first | exact True.intro | rfl | omega | (simp; done) | (simp; omega) | (simp [zai]; done) | (simp [zai]; omega))).trans ?_
 refine (if_pos (by first | exact True.intro | rfl | omega | (simp; done) | (simp; omega) | (simp [zai]; done) | (simp [zai]; omega))).trans ?_
 refine (if_pos (by first | exact True.intro | rfl | omega | (simp; done) | (simp; omega) | (simp [zai]; done) | (simp [zai]; omega))).trans ?_
 refine (if_pos (zab.2 (zdE (l := (zav 6 l.length (.bool true :: bys X) (.bool true :: bys Y)) ++ l) (zam rfl hcell (by simp [zav, hA, hB, za8, zc9, zdi] <;> omega)) (by simp <;> omega) h2))).trans ?_
 rfl

theorem zo7 (a0 a1 a2 a3 b0 b1 b2 b3 : UInt8) (l X Y : List UInt8) (s2 : Int) (hl : l.length ≤ 1000000000000) (hX : X.length = 16) (hY : Y.length = 16) (hr : zbW 17 l = 0) (hs0 : zan l 6 ≠ 0) (hA : zag (.bool false :: bys X) = [a0, a1, a2, a3]) (hB : zag (.bool false :: bys Y) = [b0, b1, b2, b3]) (h2 : zfX ((zav 17 l.length (.bool false :: bys X) (.bool false :: bys Y)) ++ l) 0 = s2) :
 ∃ h1, Runs Try.prog 38 [.int .u8 17, slB 0 l, .agg (.bool false :: bys X), .agg (.bool false :: bys Y)] [zaC l] (.bool (decide (s2 = 65535))) h1 := by
 have hn : 8 ≤ l.length := by rcases zcx hr with h | h <;> omega
 have hwX : zas (List.take 17 (AV.bool false :: bys X)) = true := by rw [zaW hX]; exact zaK hX
 have hwY : zas (List.take 17 (AV.bool false :: bys Y)) = true := by rw [zaW hY]; exact zaK hY
 have hAX : zag (List.take 17 (AV.bool false :: bys X)) = [a0, a1, a2, a3] := by rw [zaW hX]; exact hA
 have hBY : zag (List.take 17 (AV.bool false :: bys Y)) = [b0, b1, b2, b3] := by rw [zaW hY]; exact hB
 have f1 : ∀ x : Int, IntKind.u8.wrap x = ((u8i x).toNat : Int) := fun x => zaH x
 have hcell : ([AV.int IntKind.u8 (a0.toNat : Int), AV.int IntKind.u8 (a1.toNat : Int), AV.int IntKind.u8 (a2.toNat : Int), AV.int IntKind.u8 (a3.toNat : Int), AV.int IntKind.u8 (b0.toNat : Int), AV.int IntKind.u8 (b1.toNat : Int), AV.int IntKind.u8 (b2.toNat : Int), AV.int IntKind.u8 (b3.toNat : Int), AV.int IntKind.u8 0, AV.int IntKind.u8 17, AV.int IntKind.u8 (IntKind.u8.wrap (((l.length : Int)).fdiv 256)), AV.int IntKind.u8 (IntKind.u8.wrap (l.length : Int))] ++ List.take (l.length * 1) (bys l)) = bys ((zav 17 l.length (.bool false :: bys X) (.bool false :: bys Y)) ++ l) := by
  unfold zav
  rw [hA, hB, zb6]
  simp only [f1]
  rw [if_neg (by simp [za8])]
  have e8 : ((l.length : Int)).fdiv 1 = (l.length : Int) := by rw [Int.fdiv_eq_ediv_of_nonneg _ (by omega), Int.ediv_one]
  rw [zc9, e8]; rfl
 refine Runs.valT0 (ze6 10 [a0, a1, a2, a3] [b0, b1, b2, b3] (rd7 (zan l 0) (zan l 2) (zca 17 l)) (zan l 6) s2) (F := 100) (n := 4) (pr := [(20, .bool false), (26, .bool false), (33, .bool false)]) ?_
 refine (zqY a0 a1 a2 a3 b0 b1 b2 b3 l [] X Y false false (zan l 0) (zan l 6) (zan l 2) (zca 17 l) 0 s2 _).trans ?_
 refine (if_pos (zab.2 (zc3 (zam rfl rfl rfl) hl (zbP hr).2))).trans ?_
 refine (if_pos (zab.2 (zxp (l := l) (zam rfl rfl rfl) ⟨by simp; omega, by decide, by simp; omega⟩ (by decide) rfl))).trans ?_
 refine (if_pos (by simp [hs0])).trans ?_
 refine (if_pos (by simp [hX, hY])).trans ?_
 refine (if_pos (zab.2 (zaT hwX hAX rfl))).trans ?_
 refine (if_pos (by simp [hX, hY])).trans ?_
 refine (if_pos (zab.2 (zaT hwY hBY rfl))).trans ?_
 refine (if_pos (by simp [hX, hY])).trans ?_
 refine (if_pos (AV.beq_self _)).trans ?_
 refine (if_pos (by first | exact True.intro | rfl | omega | (simp; done) | (simp; omega) | (simp [zai]; done) | (simp [zai]; omega))).trans ?_
 refine (if_pos (by first | exact True.intro | rfl | omega | (simp; done) | (simp; omega) | (simp [zai]; done) | (simp [zai]; omega))).trans ?_
 refine (if_pos (by first | exact True.intro | rfl | omega | (simp; done) | (simp; omega) | (simp [zai]; done) | (simp [zai]; omega))).trans ?_
 refine (if_pos (zab.2 (zdE (l := (zav 17 l.length (.bool false :: bys X) (.bool false :: bys Y)) ++ l) (zam rfl hcell (by simp [zav, hA, hB, za8, zc9, zdi] <;> omega)) (by simp <;> omega) h2))).trans ?_
 rfl

theorem zoS (a0 a1 a2 a3 a4 a5 a6 a7 a8 a9 a10 a11 a12 a13 a14 a15 b0 b1 b2 b3 b4 b5 b6 b7 b8 b9 b10 b11 b12 b13 b14 b15 : UInt8) (l X Y : List UInt8) (s2 : Int) (hl : l.length ≤ 1000000000000) (hX : X.length = 16) (hY : Y.length = 16) (hr : zbW 17 l = 0) (hs0 : zan l 6 ≠ 0) (hA : zag (.bool true :: bys X) = [a0, a1, a2, a3, a4, a5, a6, a7, a8, a9, a10, a11, a12, a13, a14, a15]) (hB : zag (.bool true :: bys Y) = [b0, b1, b2, b3, b4, b5, b6, b7, b8, b9, b10, b11, b12, b13, b14, b15]) (h2 : zfX ((zav 17 l.length (.bool true :: bys X) (.bool true :: bys Y)) ++ l) 0 = s2) :
 ∃ h1, Runs Try.prog 38 [.int .u8 17, slB 0 l, .agg (.bool true :: bys X), .agg (.bool true :: bys Y)] [zaC l] (.bool (decide (s2 = 65535))) h1 := by
 have hn : 8 ≤ l.length := by rcases zcx hr with h | h <;> omega
 have hwX : zas (List.take 17 (AV.bool true :: bys X)) = true := by rw [zaW hX]; exact zaK hX
 have hwY : zas (List.take 17 (AV.bool true :: bys Y)) = true := by rw [zaW hY]; exact zaK hY
 have hAX : zag (List.take 17 (AV.bool true :: bys X)) = [a0, a1, a2, a3, a4, a5, a6, a7, a8, a9, a10, a11, a12, a13, a14, a15] := by rw [zaW hX]; exact hA
 have hBY : zag (List.take 17 (AV.bool true :: bys Y)) = [b0, b1, b2, b3, b4, b5, b6, b7, b8, b9, b10, b11, b12, b13, b14, b15] := by rw [zaW hY]; exact hB
 have f1 : ∀ x : Int, IntKind.u8.wrap x = ((u8i x).toNat : Int) := fun x => zaH x
 have hcell : ([AV.int IntKind.u8 (a0.toNat : Int), AV.int IntKind.u8 (a1.toNat : Int), AV.int IntKind.u8 (a2.toNat : Int), AV.int IntKind.u8 (a3.toNat : Int), AV.int IntKind.u8 (a4.toNat : Int), AV.int IntKind.u8 (a5.toNat : Int), AV.int IntKind.u8 (a6.toNat : Int), AV.int IntKind.u8 (a7.toNat : Int), AV.int IntKind.u8 (a8.toNat : Int), AV.int IntKind.u8 (a9.toNat : Int), AV.int IntKind.u8 (a10.toNat : Int), AV.int IntKind.u8 (a11.toNat : Int), AV.int IntKind.u8 (a12.toNat : Int), AV.int IntKind.u8 (a13.toNat : Int), AV.int IntKind.u8 (a14.toNat : Int), AV.int IntKind.u8 (a15.toNat : Int), AV.int IntKind.u8 (b0.toNat : Int), AV.int IntKind.u8 (b1.toNat : Int), AV.int IntKind.u8 (b2.toNat : Int), AV.int IntKind.u8 (b3.toNat : Int), AV.int IntKind.u8 (b4.toNat : Int), AV.int IntKind.u8 (b5.toNat : Int), AV.int IntKind.u8 (b6.toNat : Int), AV.int IntKind.u8 (b7.toNat : Int), AV.int IntKind.u8 (b8.toNat : Int), AV.int IntKind.u8 (b9.toNat : Int), AV.int IntKind.u8 (b10.toNat : Int), AV.int IntKind.u8 (b11.toNat : Int), AV.int IntKind.u8 (b12.toNat : Int), AV.int IntKind.u8 (b13.toNat : Int), AV.int IntKind.u8 (b14.toNat : Int), AV.int IntKind.u8 (b15.toNat : Int), AV.int IntKind.u8 (IntKind.u8.wrap (((l.length : Int)).fdiv 16777216)), AV.int IntKind.u8 (IntKind.u8.wrap (((l.length : Int)).fdiv 65536)), AV.int IntKind.u8 (IntKind.u8.wrap (((l.length : Int)).fdiv 256)), AV.int IntKind.u8 (IntKind.u8.wrap (l.length : Int)), AV.int IntKind.u8 0, AV.int IntKind.u8 0, AV.int IntKind.u8 0, AV.int IntKind.u8 17] ++ List.take (l.length * 1) (bys l)) = bys ((zav 17 l.length (.bool true :: bys X) (.bool true :: bys Y)) ++ l) := by
  unfold zav
  rw [hA, hB, zb6]
  simp only [f1]
  rw [if_pos (show za8 (AV.bool true :: bys X) = true by simp [za8])]
  have e8 : ((l.length : Int)).fdiv 1 = (l.length : Int) := by rw [Int.fdiv_eq_ediv_of_nonneg _ (by omega), Int.ediv_one]
  rw [zdi, e8]; rfl
 refine Runs.valT0 (ze6 10 [a0, a1, a2, a3, a4, a5, a6, a7, a8, a9, a10, a11, a12, a13, a14, a15] [b0, b1, b2, b3, b4, b5, b6, b7, b8, b9, b10, b11, b12, b13, b14, b15] (rd7 (zan l 0) (zan l 2) (zca 17 l)) (zan l 6) s2) (F := 100) (n := 4) (pr := [(20, .bool false), (26, .bool false), (33, .bool false)]) ?_
 refine (zqI a0 a1 a2 a3 a4 a5 a6 a7 a8 a9 a10 a11 a12 a13 a14 a15 b0 b1 b2 b3 b4 b5 b6 b7 b8 b9 b10 b11 b12 b13 b14 b15 l [] X Y false false (zan l 0) (zan l 6) (zan l 2) (zca 17 l) 0 s2 _).trans ?_
 refine (if_pos (zab.2 (zc3 (zam rfl rfl rfl) hl (zbP hr).2))).trans ?_
 refine (if_pos (zab.2 (zxp (l := l) (zam rfl rfl rfl) ⟨by simp; omega, by decide, by simp; omega⟩ (by decide) rfl))).trans ?_
 refine (if_pos (by simp [hs0])).trans ?_
 refine (if_pos (by simp [hX, hY])).trans ?_
 refine (if_pos (zab.2 (zaT hwX hAX rfl))).trans ?_
 refine (if_pos (by simp [hX, hY])).trans ?_
 refine (if_pos (zab.2 (zaT hwY hBY rfl))).trans ?_
 refine (if_pos (by simp [hX, hY])).trans ?_
 refine (if_pos (AV.beq_self _)).trans ?_
 refine (if_pos (by first | exact True.intro | rfl | omega | (simp; done) | (simp; omega) | (simp [zai]; done) | (simp [zai]; omega))).trans ?_
 refine (if_pos (by first | exact True.intro | rfl | omega | (simp; done) | (simp; omega) | (simp [zai]; done) | (simp [zai]; omega))).trans ?_
 refine (if_pos (by first | exact True.intro | rfl | omega | (simp; done) | (simp; omega) | (simp [zai]; done) | (simp [zai]; omega))).trans ?_
 refine (if_pos (zab.2 (zdE (l := (zav 17 l.length (.bool true :: bys X) (.bool true :: bys Y)) ++ l) (zam rfl hcell (by simp [zav, hA, hB, za8, zc9, zdi] <;> omega)) (by simp <;> omega) h2))).trans ?_
 rfl

theorem zmx (l X Y : List UInt8) (v : Bool) (hl : l.length ≤ 1000000000000) (hX : X.length = 16) (hY : Y.length = 16) (hr : zbW 17 l = 0) (hs0 : zan l 6 = 0) :
 ∃ h1, Runs Try.prog 38 [.int .u8 17, slB 0 l, .agg (.bool v :: bys X), .agg (.bool v :: bys Y)] [zaC l] (.bool (true)) h1 := by
 have hn : 8 ≤ l.length := by rcases zcx hr with h | h <;> omega
 refine Runs.valT0 (ze6 10 [] [] (rd7 (zan l 0) (zan l 2) (zca 17 l)) (zan l 6) 0) (F := 100) (n := 4) (pr := [(20, .bool false), (26, .bool false), (33, .bool true)]) ?_
 refine (zuT l [] X Y v v (zan l 0) (zan l 6) (zan l 2) (zca 17 l) 0 0 _).trans ?_
 refine (if_pos (zab.2 (zc3 (zam rfl rfl rfl) hl (zbP hr).2))).trans ?_
 refine (if_pos (by simp)).trans ?_
 refine (if_pos (zab.2 (zxp (l := l) (zam rfl rfl rfl) ⟨by simp; omega, by decide, by simp; omega⟩ (by decide) rfl))).trans ?_
 refine (if_pos (by simp [hs0])).trans ?_
 rfl

theorem zxk : SoundE Try.prog 38 (zbj zmz) := by
 refine zax fun args h v' h' hg => ?_
 unfold zmz at hg
 split at hg
 · rename_i p b cs ds
   simp only [Option.some.injEq, Prod.mk.injEq, Bool.and_eq_true, decide_eq_true_eq] at hg
   obtain ⟨⟨hb, hwc, hwd, hn, hp⟩, rfl, rfl⟩ := hg
   rw [← zbt hb] at hn
   obtain ⟨v, X, rfl, hX⟩ := zdn hwc
   obtain ⟨w, Y, rfl, hY⟩ := zdn hwd
   refine ⟨rfl, rfl, [.int .u8 p, slB 0 (bOf h b), .agg (.bool v :: bys X), .agg (.bool w :: bys Y)], [zaC (bOf h b)], .cons _ _ _ _ _ _ _ (.flat _ _ rfl) (.cons _ _ _ _ _ _ _ (zaJ hb 0) (.cons _ _ _ _ _ _ _ (.flat _ _ zcH) (.cons _ _ _ _ _ _ _ (.flat _ _ zcH) (.nil _)))), ?_⟩
   generalize bOf h b = l at hn
   by_cases hr : zbW p l = 0
   case neg =>
    have hg : zfy p l (.bool v :: bys X) (.bool w :: bys Y) = false := by unfold zfy; rw [decide_eq_false (fun h => hr h.1)]; rfl
    rw [hg]
    refine Runs.valT0 (ze6 10 [] [] (zBO (zbW p l)) (zbW p l) 0) (F := 100) (n := 4) (pr := [(20, .bool true)]) ?_
    refine (zvQ p l [] X Y v w 0 (zbW p l) 0 0 0 0 _).trans ?_
    refine (if_pos (zab.2 (zc3 (zam rfl rfl rfl) hn (zeG rfl hr).2))).trans ?_
    refine (if_pos (by first | exact True.intro | rfl | omega | (simp; done) | (simp; omega) | (simp [zai]; done) | (simp [zai]; omega))).trans ?_
    rfl
   by_cases hvw : v = w
   case neg =>
    have hg : zfy p l (.bool v :: bys X) (.bool w :: bys Y) = false := by unfold zfy; rw [decide_eq_false (fun h => hvw h.2)]; rfl
    rw [hg]
    refine Runs.valT0 (ze6 10 [] [] (rd7 (zan l 0) (zan l 2) (zca p l)) 0 0) (F := 100) (n := 4) (pr := [(20, .bool false), (26, .bool true)]) ?_
    refine (zu5 p l [] X Y v w (zan l 0) 0 (zan l 2) (zca p l) 0 0 _).trans ?_
    refine (if_pos (zab.2 (zc3 (zam rfl rfl rfl) hn (zbP hr).2))).trans ?_
    refine (if_pos (by simp [zbZ]; exact hvw)).trans ?_
    rfl
   subst hvw
   have g0 : ∀ b1 : Bool, (decide (zbW p l = 0 ∧ za8 (.bool v :: bys X) = za8 (.bool v :: bys Y)) && b1) = b1 := fun b1 => by rw [decide_eq_true ⟨hr, rfl⟩]; rfl
   unfold zfy
   rw [g0]
   have hev : (zav p l.length (.bool v :: bys X) (.bool v :: bys Y)).length % 2 = 0 := by rw [zl7 _ _ _ _ _ hX hY]; cases v <;> decide
   rw [← znl hev (Int.le_refl 0)]
   cases v
   · obtain ⟨a0, a1, a2, a3, hA⟩ := zfQ (l := zag (.bool false :: bys X)) (by rw [zcF]; simp [hX])
     obtain ⟨b0, b1, b2, b3, hB⟩ := zfQ (l := zag (.bool false :: bys Y)) (by rw [zcF]; simp [hY])
     rcases zcx hr with ⟨rfl, hn20⟩ | ⟨rfl, hn8⟩
     · rw [decide_eq_false (fun h => absurd h.1 (by decide)), Bool.false_or]
       exact zoY a0 a1 a2 a3 b0 b1 b2 b3 l X Y _ hn hX hY hr hA hB rfl
     · by_cases hs : zan l 6 = 0
       · rw [decide_eq_true ⟨rfl, hs⟩, Bool.true_or]
         exact zmx l X Y false hn hX hY hr hs
       · rw [decide_eq_false (fun h => hs h.2), Bool.false_or]
         exact zo7 a0 a1 a2 a3 b0 b1 b2 b3 l X Y _ hn hX hY hr hs hA hB rfl
   · obtain ⟨a0, a1, a2, a3, a4, a5, a6, a7, a8, a9, a10, a11, a12, a13, a14, a15, hA⟩ := zdT (l := zag (.bool true :: bys X)) (by rw [zbY]; exact hX)
     obtain ⟨b0, b1, b2, b3, b4, b5, b6, b7, b8, b9, b10, b11, b12, b13, b14, b15, hB⟩ := zdT (l := zag (.bool true :: bys Y)) (by rw [zbY]; exact hY)
     rcases zcx hr with ⟨rfl, hn20⟩ | ⟨rfl, hn8⟩
     · rw [decide_eq_false (fun h => absurd h.1 (by decide)), Bool.false_or]
       exact zo2 a0 a1 a2 a3 a4 a5 a6 a7 a8 a9 a10 a11 a12 a13 a14 a15 b0 b1 b2 b3 b4 b5 b6 b7 b8 b9 b10 b11 b12 b13 b14 b15 l X Y _ hn hX hY hr hA hB rfl
     · by_cases hs : zan l 6 = 0
       · rw [decide_eq_true ⟨rfl, hs⟩, Bool.true_or]
         exact zmx l X Y true hn hX hY hr hs
       · rw [decide_eq_false (fun h => hs h.2), Bool.false_or]
         exact zoS a0 a1 a2 a3 a4 a5 a6 a7 a8 a9 a10 a11 a12 a13 a14 a15 b0 b1 b2 b3 b4 b5 b6 b7 b8 b9 b10 b11 b12 b13 b14 b15 l X Y _ hn hX hY hr hs hA hB rfl
 · simp at hg

theorem zlA {h : zaa} {a : AV} {l L : List UInt8} {p to : Int} {cs ds : List AV} {k : Nat} (g : bOk h a = true ∧ bOf h a = l) (hc : zas cs = true) (hd : zas ds = true) (hn : nOf a ≤ 1000000000000) (hto : 0 ≤ to ∧ to < 65536) (hL : zdL p l to cs ds = L) (hk : h.length = k) : Says zhj [.int .u8 p, a, .int .u16 to, .agg cs, .agg ds] h (slB k L) [zbo L] := ⟨by
 show some (bOk h a && (zas cs && (zas ds && decide (nOf a ≤ 1000000000000 ∧ 0 ≤ to ∧ to < 65536))), slB h.length (zdL p (bOf h a) to cs ds), h ++ [zbo (zdL p (bOf h a) to cs ds)]) = _
 rw [g.1, g.2, hc, hd, hL, hk, decide_eq_true ⟨hn, hto⟩]; rfl⟩
theorem zob {h : zaa} {a : AV} {l : List UInt8} {p : Int} {cs ds : List AV} {b : Bool} (g : bOk h a = true ∧ bOf h a = l) (hc : zas cs = true) (hd : zas ds = true) (hn : nOf a ≤ 1000000000000) (hp : 0 ≤ p ∧ p < 256) (hb : zfy p l cs ds = b) : Says zmz [.int .u8 p, a, .agg cs, .agg ds] h (.bool b) [] := ⟨by
 show some (bOk h a && (zas cs && (zas ds && decide (nOf a ≤ 1000000000000 ∧ 0 ≤ p ∧ p < 256))), AV.bool (zfy p (bOf h a) cs ds), h) = _
 rw [g.1, g.2, hc, hd, hb, decide_eq_true ⟨hn, hp⟩, List.append_nil]; rfl⟩

end Go.Proofs.Ytnchnjkakddhlaa.L
