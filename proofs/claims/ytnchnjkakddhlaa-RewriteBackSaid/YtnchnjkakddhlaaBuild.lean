/- The reference's Build: what it yields. -/
import Derived.Test.YtnchnjkakddhlaaBuildM
set_option autoImplicit false
set_option maxRecDepth 100000
set_option linter.unusedVariables false
set_option linter.unusedSimpArgs false
namespace Go.Proofs.Ytnchnjkakddhlaa.L
open Go Go.Abs

theorem zoB {h : zaa} {cs ds : List AV} {pr n : Int} {M : List UInt8} {k : Nat} (hc : zas cs = true) (hd : zas ds = true) (hp : 0 ≤ pr ∧ pr < 256) (hm : zfn cs ds n) (hM : zgp cs ds pr n = M) (hk : h.length = k) :
 Says zwt [.agg cs, .agg ds, .int .u8 pr, .int .i64 n] h (.tup [slB k M, .bool true]) [zbo M] := ⟨by
 show some (zas cs && (zas ds && decide (0 ≤ pr ∧ pr < 256)), AV.tup [slB h.length (zgp cs ds pr n), .bool (decide (zfn cs ds n))], h ++ [zbo (zgp cs ds pr n)]) = _
 rw [hc, hd, decide_eq_true hm, hM, hk, decide_eq_true hp]; rfl⟩
theorem zoh {h : zaa} {cs ds : List AV} {pr n : Int} {M : List UInt8} {k : Nat} (hc : zas cs = true) (hd : zas ds = true) (hp : 0 ≤ pr ∧ pr < 256) (hm : zfM cs ds n) (hM : zgF cs ds pr n = M) (hk : h.length = k) :
 Says zwF [.agg cs, .agg ds, .int .u8 pr, .int .i64 n] h (.tup [slB k M, .bool true]) [zbo M] := ⟨by
 show some (zas cs && (zas ds && decide (0 ≤ pr ∧ pr < 256)), AV.tup [slB h.length (zgF cs ds pr n), .bool (decide (zfM cs ds n))], h ++ [zbo (zgF cs ds pr n)]) = _
 rw [hc, hd, decide_eq_true hm, hM, hk, decide_eq_true hp]; rfl⟩

theorem znP (n : Int) (pad : Nat) (p q r fl : UInt8) (d : List UInt8) (bare : Bool) (hd : d.length ≤ 2000) (hpad : pad ≤ 100) (hp : kb1 n = p.toNat) (hq : kb2 n = q.toNat) (hr : kb3 n = r.toNat) (H : List UInt8) (hH : (zo8 false false n ((hdn false + d.length : Nat) : Int)) = H) (hc : 65535 - (zbm false false n fl d) ≠ 0) :
 ∃ h1, Runs Try.prog 14 [.agg (zkT false false n), .int .u8 (fl.toNat : Int), slB 0 d, .bool false, .bool bare, .int .i64 (pad : Int)] [zaC d] (.sl (some (16, 0)) (14 + H.length + (20 + d.length) + (pad : Int).toNat) 0 false) h1 ∧
  ∃ par, h1[16]? = some (.cells (bys (ze9 false false false bare n fl d pad)) 1 .own par) := by
 have wS : zas (zbD false n) = true := by rw [za9]; exact zaK rfl
 have wD : zas (zce false) = true := by rw [zbN]; exact zaK rfl
 have hA : zag (zbD false n) = [10, p, q, r] := by
  rw [za9, zcF]; unfold zb8; rw [hp, hq, hr]; simp
 have hB : zag (zce false) = [192, 168, 0, 1] := by rw [zbN, zcF]; rfl
 have hHl : H.length = 20 := by rw [← hH, zco _ _ _ _ (by unfold hdn; split <;> omega)]; rfl
 have hsr := zcv false false n fl d
 have hdnE : hdn false = 20 := rfl
 have f5 : IntKind.i64.wrap (65535 - (zbm false false n fl d)) = 65535 - (zbm false false n fl d) := zao (by omega)
 have kS : (cT n fl d) = bys (zaZ (zat n) 80 fl 0 ++ d) := zuN n fl d
 have kE : cE false false = bys (zbn false false) := zl9 _ _
 have kC : (zae (zae (cT n fl d) 16 [b8 (IntKind.u8.wrap ((IntKind.i64.wrap (65535 - (zbm false false n fl d))).fdiv 256))]) 17 [b8 (IntKind.u8.wrap (IntKind.i64.wrap (65535 - (zbm false false n fl d))))]) = bys (zaZ (zat n) 80 fl (65535 - (zbm false false n fl d)) ++ d) := by
  rw [f5, zwa (v := 65535 - (zbm false false n fl d)) kS (by simp [zaY, zaZ] <;> omega) rfl rfl, ziv (by omega)]
 have kF : List.take ((14 + H.length + (20 + d.length)) * 1) (List.take ((14 + H.length) * 1) (cE false false ++ List.take (H.length * 1) (bys H)) ++ List.take ((20 + d.length) * 1) (zae (zae (cT n fl d) 16 [b8 (IntKind.u8.wrap ((IntKind.i64.wrap (65535 - (zbm false false n fl d))).fdiv 256))]) 17 [b8 (IntKind.u8.wrap (IntKind.i64.wrap (65535 - (zbm false false n fl d))))])) ++ zex (pad : Int).toNat [b8 0] = bys (zbn false false ++ H ++ (zaZ (zat n) 80 fl (65535 - (zbm false false n fl d)) ++ d) ++ List.replicate pad 0) :=
  zbM (zaP (zbM (zaP (zbM kE (zb6 _)) (by simp [zbn] <;> omega)) (zaP kC (by simp [zaY, zaZ] <;> omega))) (by simp [zbn, zaY, zaZ] <;> omega)) (by rw [show (pad : Int).toNat = pad by omega]; exact zdx pad)
 have hbc : zek false false bare n fl d = (65535 - (zbm false false n fl d)) := by
  unfold zek
  rw [if_neg (by simp), if_neg (by simp)]
 have hG : zj0 false false bare n fl d = (zaZ (zat n) 80 fl (65535 - (zbm false false n fl d)) ++ d) := by
  unfold zj0; rw [hbc]; rfl
 have hF : ze9 false false false bare n fl d pad = zbn false false ++ H ++ (zaZ (zat n) 80 fl (65535 - (zbm false false n fl d)) ++ d) ++ List.replicate pad 0 := by
  unfold ze9; rw [hG, hH]
 have kP : [b8 10, b8 (p.toNat : Int), b8 (q.toNat : Int), b8 (r.toNat : Int), b8 192, b8 168, b8 0, b8 1, b8 0, b8 (zad (some (b8 6))), b8 (IntKind.u8.wrap (((((20 + d.length) : Nat) : Int)).fdiv 256)), b8 (IntKind.u8.wrap (((20 + d.length) : Nat) : Int))] = bys (zav (prt false) ((hdn false + d.length : Nat) : Int) (zbD false n) (zce false)) := by
  unfold zav
  rw [hA, hB]
  simp only [b8, zaH, zcd]
  rw [if_neg (by rw [za9]; simp [za8]), zc9]
  have e1 : ((20 + d.length : Nat) : Int).fdiv 1 = ((20 + d.length : Nat) : Int) := by rw [Int.fdiv_eq_ediv_of_nonneg _ (by omega), Int.ediv_one]
  have e2 : ((hdn false + d.length : Nat) : Int) = ((20 + d.length : Nat) : Int) := rfl
  rw [e2, e1, zcd]
  rfl
 rw [hF]
 refine ⟨zhu n (zbm false false n fl d) (pad : Int) p q r fl d H bare, Runs.ofT0 (zd9 [10, p, q, r] [192, 168, 0, 1] H (zbm false false n fl d)) (F := 100) (n := 4) (pr := [(52, .bool false), (56, .bool false), (60, .bool false), (135, .bool false)]) ?_, _, congrArg some (congrArg (fun z => ABlk.cells z 1 Md.own _) kF)⟩
 refine (zpu n (zbm false false n fl d) (pad : Int) p q r fl d H bare _).trans ?_
 try rw [kC]
 try rw [kS]
 try rw [kE]
 refine (if_pos (wS)).trans ?_
 iterate 3 (refine (if_pos (decide_eq_false (by omega))).trans ?_)
 iterate 3 (refine (if_pos (by first | exact True.intro | rfl | omega | (simp [zaY, zaZ, zbn, hHl]; done) | (simp [zaY, zaZ, zbn, hHl]; omega))).trans ?_)
 refine (if_pos (zab.2 (zaT wS hA rfl))).trans ?_
 refine (if_pos (zab.2 (zaT wD hB rfl))).trans ?_
 iterate 3 (refine (if_pos (by first | exact True.intro | rfl | omega | (simp [zaY, zaZ, zbn, hHl]; done) | (simp [zaY, zaZ, zbn, hHl]; omega))).trans ?_)
 refine (if_pos (zab.2 (zdE (l := (zav (prt false) ((hdn false + d.length : Nat) : Int) (zbD false n) (zce false)) ++ (zaZ (zat n) 80 fl 0 ++ d)) (zam rfl (zbM kP (zaP kS (by simp [zaY, zaZ] <;> omega))) (by rw [List.length_append, ← zah (zav (prt false) ((hdn false + d.length : Nat) : Int) (zbD false n) (zce false)), ← kP]; simp [zaY, zaZ] <;> omega)) (by simp <;> omega) rfl))).trans ?_
 refine (if_pos (by rw [f5]; simp; exact hc)).trans ?_
 iterate 2 (refine (if_pos (by first | exact True.intro | rfl | omega | (simp [zaY, zaZ, zbn, hHl]; done) | (simp [zaY, zaZ, zbn, hHl]; omega))).trans ?_)
 refine (if_pos (zab.2 (zoB wS wD (by decide) ⟨by rw [za9]; rfl, by rw [zbN]; rfl, by rw [hdnE]; omega, by rw [hdnE]; omega⟩ hH rfl))).trans ?_
 iterate 11 (refine (if_pos (by first | exact True.intro | rfl | omega | (simp [zaY, zaZ, zbn, hHl]; done) | (simp [zaY, zaZ, zbn, hHl]; omega))).trans ?_)
 rfl

theorem zno (n : Int) (pad : Nat) (p q r fl : UInt8) (d : List UInt8) (bare : Bool) (hd : d.length ≤ 2000) (hpad : pad ≤ 100) (hp : kb1 n = p.toNat) (hq : kb2 n = q.toNat) (hr : kb3 n = r.toNat) (H : List UInt8) (hH : (zo8 false false n ((hdn false + d.length : Nat) : Int)) = H) (hc : 65535 - (zbm false false n fl d) = 0) :
 ∃ h1, Runs Try.prog 14 [.agg (zkT false false n), .int .u8 (fl.toNat : Int), slB 0 d, .bool false, .bool bare, .int .i64 (pad : Int)] [zaC d] (.sl (some (16, 0)) (14 + H.length + (20 + d.length) + (pad : Int).toNat) 0 false) h1 ∧
  ∃ par, h1[16]? = some (.cells (bys (ze9 false false false bare n fl d pad)) 1 .own par) := by
 have wS : zas (zbD false n) = true := by rw [za9]; exact zaK rfl
 have wD : zas (zce false) = true := by rw [zbN]; exact zaK rfl
 have hA : zag (zbD false n) = [10, p, q, r] := by
  rw [za9, zcF]; unfold zb8; rw [hp, hq, hr]; simp
 have hB : zag (zce false) = [192, 168, 0, 1] := by rw [zbN, zcF]; rfl
 have hHl : H.length = 20 := by rw [← hH, zco _ _ _ _ (by unfold hdn; split <;> omega)]; rfl
 have hsr := zcv false false n fl d
 have hdnE : hdn false = 20 := rfl
 have f5 : IntKind.i64.wrap (65535 - (zbm false false n fl d)) = 65535 - (zbm false false n fl d) := zao (by omega)
 have kS : (cT n fl d) = bys (zaZ (zat n) 80 fl 0 ++ d) := zuN n fl d
 have kE : cE false false = bys (zbn false false) := zl9 _ _
 have kC : (zae (zae (cT n fl d) 16 [b8 (IntKind.u8.wrap ((IntKind.i64.wrap (65535 - (zbm false false n fl d))).fdiv 256))]) 17 [b8 (IntKind.u8.wrap (IntKind.i64.wrap (65535 - (zbm false false n fl d))))]) = bys (zaZ (zat n) 80 fl (65535 - (zbm false false n fl d)) ++ d) := by
  rw [f5, zwa (v := 65535 - (zbm false false n fl d)) kS (by simp [zaY, zaZ] <;> omega) rfl rfl, ziv (by omega)]
 have kF : List.take ((14 + H.length + (20 + d.length)) * 1) (List.take ((14 + H.length) * 1) (cE false false ++ List.take (H.length * 1) (bys H)) ++ List.take ((20 + d.length) * 1) (zae (zae (cT n fl d) 16 [b8 (IntKind.u8.wrap ((IntKind.i64.wrap (65535 - (zbm false false n fl d))).fdiv 256))]) 17 [b8 (IntKind.u8.wrap (IntKind.i64.wrap (65535 - (zbm false false n fl d))))])) ++ zex (pad : Int).toNat [b8 0] = bys (zbn false false ++ H ++ (zaZ (zat n) 80 fl (65535 - (zbm false false n fl d)) ++ d) ++ List.replicate pad 0) :=
  zbM (zaP (zbM (zaP (zbM kE (zb6 _)) (by simp [zbn] <;> omega)) (zaP kC (by simp [zaY, zaZ] <;> omega))) (by simp [zbn, zaY, zaZ] <;> omega)) (by rw [show (pad : Int).toNat = pad by omega]; exact zdx pad)
 have hbc : zek false false bare n fl d = (65535 - (zbm false false n fl d)) := by
  unfold zek
  rw [if_neg (by simp), if_neg (by simp)]
 have hG : zj0 false false bare n fl d = (zaZ (zat n) 80 fl (65535 - (zbm false false n fl d)) ++ d) := by
  unfold zj0; rw [hbc]; rfl
 have hF : ze9 false false false bare n fl d pad = zbn false false ++ H ++ (zaZ (zat n) 80 fl (65535 - (zbm false false n fl d)) ++ d) ++ List.replicate pad 0 := by
  unfold ze9; rw [hG, hH]
 have kP : [b8 10, b8 (p.toNat : Int), b8 (q.toNat : Int), b8 (r.toNat : Int), b8 192, b8 168, b8 0, b8 1, b8 0, b8 (zad (some (b8 6))), b8 (IntKind.u8.wrap (((((20 + d.length) : Nat) : Int)).fdiv 256)), b8 (IntKind.u8.wrap (((20 + d.length) : Nat) : Int))] = bys (zav (prt false) ((hdn false + d.length : Nat) : Int) (zbD false n) (zce false)) := by
  unfold zav
  rw [hA, hB]
  simp only [b8, zaH, zcd]
  rw [if_neg (by rw [za9]; simp [za8]), zc9]
  have e1 : ((20 + d.length : Nat) : Int).fdiv 1 = ((20 + d.length : Nat) : Int) := by rw [Int.fdiv_eq_ediv_of_nonneg _ (by omega), Int.ediv_one]
  have e2 : ((hdn false + d.length : Nat) : Int) = ((20 + d.length : Nat) : Int) := rfl
  rw [e2, e1, zcd]
  rfl
 rw [hF]
 refine ⟨zki n (zbm false false n fl d) (pad : Int) p q r fl d H bare, Runs.ofT0 (zd9 [10, p, q, r] [192, 168, 0, 1] H (zbm false false n fl d)) (F := 100) (n := 4) (pr := [(52, .bool false), (56, .bool false), (60, .bool false), (135, .bool true)]) ?_, _, congrArg some (congrArg (fun z => ABlk.cells z 1 Md.own _) kF)⟩
 refine (zp3 n (zbm false false n fl d) (pad : Int) p q r fl d H bare _).trans ?_
 try rw [kC]
 try rw [kS]
 try rw [kE]
 refine (if_pos (wS)).trans ?_
 iterate 3 (refine (if_pos (decide_eq_false (by omega))).trans ?_)
 iterate 3 (refine (if_pos (by first | exact True.intro | rfl | omega | (simp [zaY, zaZ, zbn, hHl]; done) | (simp [zaY, zaZ, zbn, hHl]; omega))).trans ?_)
 refine (if_pos (zab.2 (zaT wS hA rfl))).trans ?_
 refine (if_pos (zab.2 (zaT wD hB rfl))).trans ?_
 iterate 3 (refine (if_pos (by first | exact True.intro | rfl | omega | (simp [zaY, zaZ, zbn, hHl]; done) | (simp [zaY, zaZ, zbn, hHl]; omega))).trans ?_)
 refine (if_pos (zab.2 (zdE (l := (zav (prt false) ((hdn false + d.length : Nat) : Int) (zbD false n) (zce false)) ++ (zaZ (zat n) 80 fl 0 ++ d)) (zam rfl (zbM kP (zaP kS (by simp [zaY, zaZ] <;> omega))) (by rw [List.length_append, ← zah (zav (prt false) ((hdn false + d.length : Nat) : Int) (zbD false n) (zce false)), ← kP]; simp [zaY, zaZ] <;> omega)) (by simp <;> omega) rfl))).trans ?_
 refine (if_pos (by rw [f5]; simp; exact hc)).trans ?_
 iterate 2 (refine (if_pos (by first | exact True.intro | rfl | omega | (simp [zaY, zaZ, zbn, hHl]; done) | (simp [zaY, zaZ, zbn, hHl]; omega))).trans ?_)
 refine (if_pos (zab.2 (zoB wS wD (by decide) ⟨by rw [za9]; rfl, by rw [zbN]; rfl, by rw [hdnE]; omega, by rw [hdnE]; omega⟩ hH rfl))).trans ?_
 iterate 11 (refine (if_pos (by first | exact True.intro | rfl | omega | (simp [zaY, zaZ, zbn, hHl]; done) | (simp [zaY, zaZ, zbn, hHl]; omega))).trans ?_)
 rfl

theorem znD (n : Int) (pad : Nat) (p q r fl : UInt8) (d : List UInt8) (hd : d.length ≤ 2000) (hpad : pad ≤ 100) (hp : kb1 n = p.toNat) (hq : kb2 n = q.toNat) (hr : kb3 n = r.toNat) (H : List UInt8) (hH : (zo8 false true n ((hdn true + d.length : Nat) : Int)) = H) (hc : 65535 - (zbm false true n fl d) ≠ 0) :
 ∃ h1, Runs Try.prog 14 [.agg (zkT false true n), .int .u8 (fl.toNat : Int), slB 0 d, .bool false, .bool false, .int .i64 (pad : Int)] [zaC d] (.sl (some (16, 0)) (14 + H.length + (8 + d.length) + (pad : Int).toNat) 0 false) h1 ∧
  ∃ par, h1[16]? = some (.cells (bys (ze9 false true false false n fl d pad)) 1 .own par) := by
 have wS : zas (zbD false n) = true := by rw [za9]; exact zaK rfl
 have wD : zas (zce false) = true := by rw [zbN]; exact zaK rfl
 have hA : zag (zbD false n) = [10, p, q, r] := by
  rw [za9, zcF]; unfold zb8; rw [hp, hq, hr]; simp
 have hB : zag (zce false) = [192, 168, 0, 1] := by rw [zbN, zcF]; rfl
 have hHl : H.length = 20 := by rw [← hH, zco _ _ _ _ (by unfold hdn; split <;> omega)]; rfl
 have hsr := zcv false true n fl d
 have hdnE : hdn true = 8 := rfl
 have f5 : IntKind.i64.wrap (65535 - (zbm false true n fl d)) = 65535 - (zbm false true n fl d) := zao (by omega)
 have kS : (cU n d) = bys (zaY (zat n) 80 (8 + d.length) 0 ++ d) := zvj n d hd
 have kE : cE false false = bys (zbn false false) := zl9 _ _
 have kC : (zae (zae (cU n d) 6 [b8 (IntKind.u8.wrap ((IntKind.i64.wrap (65535 - (zbm false true n fl d))).fdiv 256))]) 7 [b8 (IntKind.u8.wrap (IntKind.i64.wrap (65535 - (zbm false true n fl d))))]) = bys (zaY (zat n) 80 (8 + d.length) (65535 - (zbm false true n fl d)) ++ d) := by
  rw [f5, zwa (v := 65535 - (zbm false true n fl d)) kS (by simp [zaY, zaZ] <;> omega) rfl rfl, ziC (by omega)]
 have kF : List.take ((14 + H.length + (8 + d.length)) * 1) (List.take ((14 + H.length) * 1) (cE false false ++ List.take (H.length * 1) (bys H)) ++ List.take ((8 + d.length) * 1) (zae (zae (cU n d) 6 [b8 (IntKind.u8.wrap ((IntKind.i64.wrap (65535 - (zbm false true n fl d))).fdiv 256))]) 7 [b8 (IntKind.u8.wrap (IntKind.i64.wrap (65535 - (zbm false true n fl d))))])) ++ zex (pad : Int).toNat [b8 0] = bys (zbn false false ++ H ++ (zaY (zat n) 80 (8 + d.length) (65535 - (zbm false true n fl d)) ++ d) ++ List.replicate pad 0) :=
  zbM (zaP (zbM (zaP (zbM kE (zb6 _)) (by simp [zbn] <;> omega)) (zaP kC (by simp [zaY, zaZ] <;> omega))) (by simp [zbn, zaY, zaZ] <;> omega)) (by rw [show (pad : Int).toNat = pad by omega]; exact zdx pad)
 have hbc : zek false true false n fl d = (65535 - (zbm false true n fl d)) := by
  unfold zek
  rw [if_neg (by simp), if_neg (by simp; exact hc)]
 have hG : zj0 false true false n fl d = (zaY (zat n) 80 (8 + d.length) (65535 - (zbm false true n fl d)) ++ d) := by
  unfold zj0; rw [hbc]; rfl
 have hF : ze9 false true false false n fl d pad = zbn false false ++ H ++ (zaY (zat n) 80 (8 + d.length) (65535 - (zbm false true n fl d)) ++ d) ++ List.replicate pad 0 := by
  unfold ze9; rw [hG, hH]
 have kP : [b8 10, b8 (p.toNat : Int), b8 (q.toNat : Int), b8 (r.toNat : Int), b8 192, b8 168, b8 0, b8 1, b8 0, b8 (zad (some (b8 17))), b8 (IntKind.u8.wrap (((((8 + d.length) : Nat) : Int)).fdiv 256)), b8 (IntKind.u8.wrap (((8 + d.length) : Nat) : Int))] = bys (zav (prt true) ((hdn true + d.length : Nat) : Int) (zbD false n) (zce false)) := by
  unfold zav
  rw [hA, hB]
  simp only [b8, zaH, zcd]
  rw [if_neg (by rw [za9]; simp [za8]), zc9]
  have e1 : ((8 + d.length : Nat) : Int).fdiv 1 = ((8 + d.length : Nat) : Int) := by rw [Int.fdiv_eq_ediv_of_nonneg _ (by omega), Int.ediv_one]
  have e2 : ((hdn true + d.length : Nat) : Int) = ((8 + d.length : Nat) : Int) := rfl
  rw [e2, e1, zcd]
  rfl
 rw [hF]
 refine ⟨zkx n (zbm false true n fl d) (pad : Int) p q r fl d H, Runs.ofT0 (zd9 [10, p, q, r] [192, 168, 0, 1] H (zbm false true n fl d)) (F := 100) (n := 4) (pr := [(52, .bool false), (56, .bool false), (60, .bool false), (135, .bool false)]) ?_, _, congrArg some (congrArg (fun z => ABlk.cells z 1 Md.own _) kF)⟩
 refine (zpI n (zbm false true n fl d) (pad : Int) p q r fl d H _).trans ?_
 try rw [kC]
 try rw [kS]
 try rw [kE]
 refine (if_pos (wS)).trans ?_
 iterate 3 (refine (if_pos (decide_eq_false (by omega))).trans ?_)
 iterate 3 (refine (if_pos (by first | exact True.intro | rfl | omega | (simp [zaY, zaZ, zbn, hHl]; done) | (simp [zaY, zaZ, zbn, hHl]; omega))).trans ?_)
 refine (if_pos (zab.2 (zaT wS hA rfl))).trans ?_
 refine (if_pos (zab.2 (zaT wD hB rfl))).trans ?_
 iterate 3 (refine (if_pos (by first | exact True.intro | rfl | omega | (simp [zaY, zaZ, zbn, hHl]; done) | (simp [zaY, zaZ, zbn, hHl]; omega))).trans ?_)
 refine (if_pos (zab.2 (zdE (l := (zav (prt true) ((hdn true + d.length : Nat) : Int) (zbD false n) (zce false)) ++ (zaY (zat n) 80 (8 + d.length) 0 ++ d)) (zam rfl (zbM kP (zaP kS (by simp [zaY, zaZ] <;> omega))) (by rw [List.length_append, ← zah (zav (prt true) ((hdn true + d.length : Nat) : Int) (zbD false n) (zce false)), ← kP]; simp [zaY, zaZ] <;> omega)) (by simp <;> omega) rfl))).trans ?_
 refine (if_pos (by rw [f5]; simp; exact hc)).trans ?_
 iterate 2 (refine (if_pos (by first | exact True.intro | rfl | omega | (simp [zaY, zaZ, zbn, hHl]; done) | (simp [zaY, zaZ, zbn, hHl]; omega))).trans ?_)
 refine (if_pos (zab.2 (zoB wS wD (by decide) ⟨by rw [za9]; rfl, by rw [zbN]; rfl, by rw [hdnE]; omega, by rw [hdnE]; omega⟩ hH rfl))).trans ?_
 iterate 11 (refine (if_pos (by first | exact True.intro | rfl | omega | (simp [zaY, zaZ, zbn, hHl]; done) | (simp [zaY, zaZ, zbn, hHl]; omega))).trans ?_)
 rfl

theorem znK (n : Int) (pad : Nat) (p q r fl : UInt8) (d : List UInt8) (hd : d.length ≤ 2000) (hpad : pad ≤ 100) (hp : kb1 n = p.toNat) (hq : kb2 n = q.toNat) (hr : kb3 n = r.toNat) (H : List UInt8) (hH : (zo8 false true n ((hdn true + d.length : Nat) : Int)) = H) (hc : 65535 - (zbm false true n fl d) = 0) :
 ∃ h1, Runs Try.prog 14 [.agg (zkT false true n), .int .u8 (fl.toNat : Int), slB 0 d, .bool false, .bool false, .int .i64 (pad : Int)] [zaC d] (.sl (some (16, 0)) (14 + H.length + (8 + d.length) + (pad : Int).toNat) 0 false) h1 ∧
  ∃ par, h1[16]? = some (.cells (bys (ze9 false true false false n fl d pad)) 1 .own par) := by
 have wS : zas (zbD false n) = true := by rw [za9]; exact zaK rfl
 have wD : zas (zce false) = true := by rw [zbN]; exact zaK rfl
 have hA : zag (zbD false n) = [10, p, q, r] := by
  rw [za9, zcF]; unfold zb8; rw [hp, hq, hr]; simp
 have hB : zag (zce false) = [192, 168, 0, 1] := by rw [zbN, zcF]; rfl
 have hHl : H.length = 20 := by rw [← hH, zco _ _ _ _ (by unfold hdn; split <;> omega)]; rfl
 have hsr := zcv false true n fl d
 have hdnE : hdn true = 8 := rfl
 have f5 : IntKind.i64.wrap (65535 - (zbm false true n fl d)) = 65535 - (zbm false true n fl d) := zao (by omega)
 have kS : (cU n d) = bys (zaY (zat n) 80 (8 + d.length) 0 ++ d) := zvj n d hd
 have kE : cE false false = bys (zbn false false) := zl9 _ _
 have kC : (zae (zae (cU n d) 6 [b8 255]) 7 [b8 255]) = bys (zaY (zat n) 80 (8 + d.length) 65535 ++ d) := by
  rw [zwa (v := 65535) kS (by simp [zaY, zaZ] <;> omega) (by decide) (by decide), ziC (by omega)]
 have kF : List.take ((14 + H.length + (8 + d.length)) * 1) (List.take ((14 + H.length) * 1) (cE false false ++ List.take (H.length * 1) (bys H)) ++ List.take ((8 + d.length) * 1) (zae (zae (cU n d) 6 [b8 255]) 7 [b8 255])) ++ zex (pad : Int).toNat [b8 0] = bys (zbn false false ++ H ++ (zaY (zat n) 80 (8 + d.length) 65535 ++ d) ++ List.replicate pad 0) :=
  zbM (zaP (zbM (zaP (zbM kE (zb6 _)) (by simp [zbn] <;> omega)) (zaP kC (by simp [zaY, zaZ] <;> omega))) (by simp [zbn, zaY, zaZ] <;> omega)) (by rw [show (pad : Int).toNat = pad by omega]; exact zdx pad)
 have hbc : zek false true false n fl d = 65535 := by
  unfold zek
  rw [if_neg (by simp), if_pos ⟨rfl, hc⟩]
 have hG : zj0 false true false n fl d = (zaY (zat n) 80 (8 + d.length) 65535 ++ d) := by
  unfold zj0; rw [hbc]; rfl
 have hF : ze9 false true false false n fl d pad = zbn false false ++ H ++ (zaY (zat n) 80 (8 + d.length) 65535 ++ d) ++ List.replicate pad 0 := by
  unfold ze9; rw [hG, hH]
 have kP : [b8 10, b8 (p.toNat : Int), b8 (q.toNat : Int), b8 (r.toNat : Int), b8 192, b8 168, b8 0, b8 1, b8 0, b8 (zad (some (b8 17))), b8 (IntKind.u8.wrap (((((8 + d.length) : Nat) : Int)).fdiv 256)), b8 (IntKind.u8.wrap (((8 + d.length) : Nat) : Int))] = bys (zav (prt true) ((hdn true + d.length : Nat) : Int) (zbD false n) (zce false)) := by
  unfold zav
  rw [hA, hB]
  simp only [b8, zaH, zcd]
  rw [if_neg (by rw [za9]; simp [za8]), zc9]
  have e1 : ((8 + d.length : Nat) : Int).fdiv 1 = ((8 + d.length : Nat) : Int) := by rw [Int.fdiv_eq_ediv_of_nonneg _ (by omega), Int.ediv_one]
  have e2 : ((hdn true + d.length : Nat) : Int) = ((8 + d.length : Nat) : Int) := rfl
  rw [e2, e1, zcd]
  rfl
 rw [hF]
 refine ⟨zj6 n (zbm false true n fl d) (pad : Int) p q r fl d H, Runs.ofT0 (zd9 [10, p, q, r] [192, 168, 0, 1] H (zbm false true n fl d)) (F := 100) (n := 4) (pr := [(52, .bool false), (56, .bool false), (60, .bool false), (135, .bool true)]) ?_, _, congrArg some (congrArg (fun z => ABlk.cells z 1 Md.own _) kF)⟩
 refine (zqq n (zbm false true n fl d) (pad : Int) p q r fl d H _).trans ?_
 try rw [kC]
 try rw [kS]
 try rw [kE]
 refine (if_pos (wS)).trans ?_
 iterate 3 (refine (if_pos (decide_eq_false (by omega))).trans ?_)
 iterate 3 (refine (if_pos (by first | exact True.intro | rfl | omega | (simp [zaY, zaZ, zbn, hHl]; done) | (simp [zaY, zaZ, zbn, hHl]; omega))).trans ?_)
 refine (if_pos (zab.2 (zaT wS hA rfl))).trans ?_
 refine (if_pos (zab.2 (zaT wD hB rfl))).trans ?_
 iterate 3 (refine (if_pos (by first | exact True.intro | rfl | omega | (simp [zaY, zaZ, zbn, hHl]; done) | (simp [zaY, zaZ, zbn, hHl]; omega))).trans ?_)
 refine (if_pos (zab.2 (zdE (l := (zav (prt true) ((hdn true + d.length : Nat) : Int) (zbD false n) (zce false)) ++ (zaY (zat n) 80 (8 + d.length) 0 ++ d)) (zam rfl (zbM kP (zaP kS (by simp [zaY, zaZ] <;> omega))) (by rw [List.length_append, ← zah (zav (prt true) ((hdn true + d.length : Nat) : Int) (zbD false n) (zce false)), ← kP]; simp [zaY, zaZ] <;> omega)) (by simp <;> omega) rfl))).trans ?_
 refine (if_pos (by rw [f5]; simp; exact hc)).trans ?_
 iterate 2 (refine (if_pos (by first | exact True.intro | rfl | omega | (simp [zaY, zaZ, zbn, hHl]; done) | (simp [zaY, zaZ, zbn, hHl]; omega))).trans ?_)
 refine (if_pos (zab.2 (zoB wS wD (by decide) ⟨by rw [za9]; rfl, by rw [zbN]; rfl, by rw [hdnE]; omega, by rw [hdnE]; omega⟩ hH rfl))).trans ?_
 iterate 11 (refine (if_pos (by first | exact True.intro | rfl | omega | (simp [zaY, zaZ, zbn, hHl]; done) | (simp [zaY, zaZ, zbn, hHl]; omega))).trans ?_)
 rfl

theorem znR (n : Int) (pad : Nat) (p q r fl : UInt8) (d : List UInt8) (bare : Bool) (hd : d.length ≤ 2000) (hpad : pad ≤ 100) (hp : kb1 n = p.toNat) (hq : kb2 n = q.toNat) (hr : kb3 n = r.toNat) (H : List UInt8) (hH : (zo8 true false n ((hdn false + d.length : Nat) : Int)) = H) (hc : 65535 - (zbm true false n fl d) ≠ 0) :
 ∃ h1, Runs Try.prog 14 [.agg (zkT true false n), .int .u8 (fl.toNat : Int), slB 0 d, .bool false, .bool bare, .int .i64 (pad : Int)] [zaC d] (.sl (some (16, 0)) (14 + H.length + (20 + d.length) + (pad : Int).toNat) 0 false) h1 ∧
  ∃ par, h1[16]? = some (.cells (bys (ze9 true false false bare n fl d pad)) 1 .own par) := by
 have wS : zas (zbD true n) = true := by rw [za9]; exact zaK rfl
 have wD : zas (zce true) = true := by rw [zbN]; exact zaK rfl
 have hA : zag (zbD true n) = [10, p, q, r, 0, 0, 0, 0, 0, 0, 0, 0, 0, 0, 0, 0] := by
  rw [za9, zbY]; unfold zb8; rw [hp, hq, hr]; simp
 have hB : zag (zce true) = [192, 168, 0, 1, 0, 0, 0, 0, 0, 0, 0, 0, 0, 0, 0, 0] := by rw [zbN, zbY]; rfl
 have hHl : H.length = 40 := by rw [← hH, zco _ _ _ _ (by unfold hdn; split <;> omega)]; rfl
 have hsr := zcv true false n fl d
 have hdnE : hdn false = 20 := rfl
 have f5 : IntKind.i64.wrap (65535 - (zbm true false n fl d)) = 65535 - (zbm true false n fl d) := zao (by omega)
 have kS : (cT n fl d) = bys (zaZ (zat n) 80 fl 0 ++ d) := zuN n fl d
 have kE : cE true false = bys (zbn true false) := zl9 _ _
 have kC : (zae (zae (cT n fl d) 16 [b8 (IntKind.u8.wrap ((IntKind.i64.wrap (65535 - (zbm true false n fl d))).fdiv 256))]) 17 [b8 (IntKind.u8.wrap (IntKind.i64.wrap (65535 - (zbm true false n fl d))))]) = bys (zaZ (zat n) 80 fl (65535 - (zbm true false n fl d)) ++ d) := by
  rw [f5, zwa (v := 65535 - (zbm true false n fl d)) kS (by simp [zaY, zaZ] <;> omega) rfl rfl, ziv (by omega)]
 have kF : List.take ((14 + H.length + (20 + d.length)) * 1) (List.take ((14 + H.length) * 1) (cE true false ++ List.take (H.length * 1) (bys H)) ++ List.take ((20 + d.length) * 1) (zae (zae (cT n fl d) 16 [b8 (IntKind.u8.wrap ((IntKind.i64.wrap (65535 - (zbm true false n fl d))).fdiv 256))]) 17 [b8 (IntKind.u8.wrap (IntKind.i64.wrap (65535 - (zbm true false n fl d))))])) ++ zex (pad : Int).toNat [b8 0] = bys (zbn true false ++ H ++ (zaZ (zat n) 80 fl (65535 - (zbm true false n fl d)) ++ d) ++ List.replicate pad 0) :=
  zbM (zaP (zbM (zaP (zbM kE (zb6 _)) (by simp [zbn] <;> omega)) (zaP kC (by simp [zaY, zaZ] <;> omega))) (by simp [zbn, zaY, zaZ] <;> omega)) (by rw [show (pad : Int).toNat = pad by omega]; exact zdx pad)
 have hbc : zek true false bare n fl d = (65535 - (zbm true false n fl d)) := by
  unfold zek
  rw [if_neg (by simp), if_neg (by simp)]
 have hG : zj0 true false bare n fl d = (zaZ (zat n) 80 fl (65535 - (zbm true false n fl d)) ++ d) := by
  unfold zj0; rw [hbc]; rfl
 have hF : ze9 true false false bare n fl d pad = zbn true false ++ H ++ (zaZ (zat n) 80 fl (65535 - (zbm true false n fl d)) ++ d) ++ List.replicate pad 0 := by
  unfold ze9; rw [hG, hH]
 have kP : [b8 10, b8 (p.toNat : Int), b8 (q.toNat : Int), b8 (r.toNat : Int), b8 0, b8 0, b8 0, b8 0, b8 0, b8 0, b8 0, b8 0, b8 0, b8 0, b8 0, b8 0, b8 192, b8 168, b8 0, b8 1, b8 0, b8 0, b8 0, b8 0, b8 0, b8 0, b8 0, b8 0, b8 0, b8 0, b8 0, b8 0, b8 0, b8 0, b8 (IntKind.u8.wrap (((((20 + d.length) : Nat) : Int)).fdiv 256)), b8 (IntKind.u8.wrap (((20 + d.length) : Nat) : Int)), b8 0, b8 0, b8 0, b8 (zad (some (b8 6)))] = bys (zav (prt false) ((hdn false + d.length : Nat) : Int) (zbD true n) (zce true)) := by
  unfold zav
  rw [hA, hB]
  simp only [b8, zaH, zcd]
  rw [if_pos (by rw [za9]; rfl), zdi]
  have e1 : ((20 + d.length : Nat) : Int).fdiv 1 = ((20 + d.length : Nat) : Int) := by rw [Int.fdiv_eq_ediv_of_nonneg _ (by omega), Int.ediv_one]
  have e2 : ((hdn false + d.length : Nat) : Int) = ((20 + d.length : Nat) : Int) := rfl
  rw [e2, e1, zcd]
  have e3 : u8i (((20 + d.length : Nat) : Int).fdiv 16777216) = 0 := by rw [Int.fdiv_eq_ediv_of_nonneg _ (by omega), show ((20 + d.length : Nat) : Int) / 16777216 = 0 by omega]; rfl
  have e4 : u8i (((20 + d.length : Nat) : Int).fdiv 65536) = 0 := by rw [Int.fdiv_eq_ediv_of_nonneg _ (by omega), show ((20 + d.length : Nat) : Int) / 65536 = 0 by omega]; rfl
  rw [e3, e4]
  rfl
 rw [hF]
 refine ⟨zhX n (zbm true false n fl d) (pad : Int) p q r fl d H bare, Runs.ofT0 (zd9 [10, p, q, r, 0, 0, 0, 0, 0, 0, 0, 0, 0, 0, 0, 0] [192, 168, 0, 1, 0, 0, 0, 0, 0, 0, 0, 0, 0, 0, 0, 0] H (zbm true false n fl d)) (F := 100) (n := 4) (pr := [(52, .bool false), (56, .bool false), (60, .bool false), (135, .bool false)]) ?_, _, congrArg some (congrArg (fun z => ABlk.cells z 1 Md.own _) kF)⟩
 refine (zpK n (zbm true false n fl d) (pad : Int) p q r fl d H bare _).trans ?_
 try rw [kC]
 try rw [kS]
 try rw [kE]
 refine (if_pos (wS)).trans ?_
 iterate 3 (refine (if_pos (decide_eq_false (by omega))).trans ?_)
 iterate 3 (refine (if_pos (by first | exact True.intro | rfl | omega | (simp [zaY, zaZ, zbn, hHl]; done) | (simp [zaY, zaZ, zbn, hHl]; omega))).trans ?_)
 refine (if_pos (zab.2 (zaT wS hA rfl))).trans ?_
 refine (if_pos (zab.2 (zaT wD hB rfl))).trans ?_
 iterate 3 (refine (if_pos (by first | exact True.intro | rfl | omega | (simp [zaY, zaZ, zbn, hHl]; done) | (simp [zaY, zaZ, zbn, hHl]; omega))).trans ?_)
 refine (if_pos (zab.2 (zdE (l := (zav (prt false) ((hdn false + d.length : Nat) : Int) (zbD true n) (zce true)) ++ (zaZ (zat n) 80 fl 0 ++ d)) (zam rfl (zbM kP (zaP kS (by simp [zaY, zaZ] <;> omega))) (by rw [List.length_append, ← zah (zav (prt false) ((hdn false + d.length : Nat) : Int) (zbD true n) (zce true)), ← kP]; simp [zaY, zaZ] <;> omega)) (by simp <;> omega) rfl))).trans ?_
 refine (if_pos (by rw [f5]; simp; exact hc)).trans ?_
 iterate 2 (refine (if_pos (by first | exact True.intro | rfl | omega | (simp [zaY, zaZ, zbn, hHl]; done) | (simp [zaY, zaZ, zbn, hHl]; omega))).trans ?_)
 refine (if_pos (zab.2 (zoh wS wD (by decide) ⟨by rw [za9]; rfl, by rw [zbN]; rfl, by rw [hdnE]; omega, by rw [hdnE]; omega⟩ hH rfl))).trans ?_
 iterate 11 (refine (if_pos (by first | exact True.intro | rfl | omega | (simp [zaY, zaZ, zbn, hHl]; done) | (simp [zaY, zaZ, zbn, hHl]; omega))).trans ?_)
 rfl

theorem znq (n : Int) (pad : Nat) (p q r fl : UInt8) (d : List UInt8) (bare : Bool) (hd : d.length ≤ 2000) (hpad : pad ≤ 100) (hp : kb1 n = p.toNat) (hq : kb2 n = q.toNat) (hr : kb3 n = r.toNat) (H : List UInt8) (hH : (zo8 true false n ((hdn false + d.length : Nat) : Int)) = H) (hc : 65535 - (zbm true false n fl d) = 0) :
 ∃ h1, Runs Try.prog 14 [.agg (zkT true false n), .int .u8 (fl.toNat : Int), slB 0 d, .bool false, .bool bare, .int .i64 (pad : Int)] [zaC d] (.sl (some (16, 0)) (14 + H.length + (20 + d.length) + (pad : Int).toNat) 0 false) h1 ∧
  ∃ par, h1[16]? = some (.cells (bys (ze9 true false false bare n fl d pad)) 1 .own par) := by
 have wS : zas (zbD true n) = true := by rw [za9]; exact zaK rfl
 have wD : zas (zce true) = true := by rw [zbN]; exact zaK rfl
 have hA : zag (zbD true n) = [10, p, q, r, 0, 0, 0, 0, 0, 0, 0, 0, 0, 0, 0, 0] := by
  rw [za9, zbY]; unfold zb8; rw [hp, hq, hr]; simp
 have hB : zag (zce true) = [192, 168, 0, 1, 0, 0, 0, 0, 0, 0, 0, 0, 0, 0, 0, 0] := by rw [zbN, zbY]; rfl
 have hHl : H.length = 40 := by rw [← hH, zco _ _ _ _ (by unfold hdn; split <;> omega)]; rfl
 have hsr := zcv true false n fl d
 have hdnE : hdn false = 20 := rfl
 have f5 : IntKind.i64.wrap (65535 - (zbm true false n fl d)) = 65535 - (zbm true false n fl d) := zao (by omega)
 have kS : (cT n fl d) = bys (zaZ (zat n) 80 fl 0 ++ d) := zuN n fl d
 have kE : cE true false = bys (zbn true false) := zl9 _ _
 have kC : (zae (zae (cT n fl d) 16 [b8 (IntKind.u8.wrap ((IntKind.i64.wrap (65535 - (zbm true false n fl d))).fdiv 256))]) 17 [b8 (IntKind.u8.wrap (IntKind.i64.wrap (65535 - (zbm true false n fl d))))]) = bys (zaZ (zat n) 80 fl (65535 - (zbm true false n fl d)) ++ d) := by
  rw [f5, zwa (v := 65535 - (zbm true false n fl d)) kS (by simp [zaY, zaZ] <;> omega) rfl rfl, ziv (by omega)]
 have kF : List.take ((14 + H.length + (20 + d.length)) * 1) (List.take ((14 + H.length) * 1) (cE true false ++ List.take (H.length * 1) (bys H)) ++ List.take ((20 + d.length) * 1) (zae (zae (cT n fl d) 16 [b8 (IntKind.u8.wrap ((IntKind.i64.wrap (65535 - (zbm true false n fl d))).fdiv 256))]) 17 [b8 (IntKind.u8.wrap (IntKind.i64.wrap (65535 - (zbm true false n fl d))))])) ++ zex (pad : Int).toNat [b8 0] = bys (zbn true false ++ H ++ (zaZ (zat n) 80 fl (65535 - (zbm true false n fl d)) ++ d) ++ List.replicate pad 0) :=
  zbM (zaP (zbM (zaP (zbM kE (zb6 _)) (by simp [zbn] <;> omega)) (zaP kC (by simp [zaY, zaZ] <;> omega))) (by simp [zbn, zaY, zaZ] <;> omega)) (by rw [show (pad : Int).toNat = pad by omega]; exact zdx pad)
 have hbc : zek true false bare n fl d = (65535 - (zbm true false n fl d)) := by
  unfold zek
  rw [if_neg (by simp), if_neg (by simp)]
 have hG : zj0 true false bare n fl d = (zaZ (zat n) 80 fl (65535 - (zbm true false n fl d)) ++ d) := by
  unfold zj0; rw [hbc]; rfl
 have hF : ze9 true false false bare n fl d pad = zbn true false ++ H ++ (zaZ (zat n) 80 fl (65535 - (zbm true false n fl d)) ++ d) ++ List.replicate pad 0 := by
  unfold ze9; rw [hG, hH]
 have kP : [b8 10, b8 (p.toNat : Int), b8 (q.toNat : Int), b8 (r.toNat : Int), b8 0, b8 0, b8 0, b8 0, b8 0, b8 0, b8 0, b8 0, b8 0, b8 0, b8 0, b8 0, b8 192, b8 168, b8 0, b8 1, b8 0, b8 0, b8 0, b8 0, b8 0, b8 0, b8 0, b8 0, b8 0, b8 0, b8 0, b8 0, b8 0, b8 0, b8 (IntKind.u8.wrap (((((20 + d.length) : Nat) : Int)).fdiv 256)), b8 (IntKind.u8.wrap (((20 + d.length) : Nat) : Int)), b8 0, b8 0, b8 0, b8 (zad (some (b8 6)))] = bys (zav (prt false) ((hdn false + d.length : Nat) : Int) (zbD true n) (zce true)) := by
  unfold zav
  rw [hA, hB]
  simp only [b8, zaH, zcd]
  rw [if_pos (by rw [za9]; rfl), zdi]
  have e1 : ((20 + d.length : Nat) : Int).fdiv 1 = ((20 + d.length : Nat) : Int) := by rw [Int.fdiv_eq_ediv_of_nonneg _ (by omega), Int.ediv_one]
  have e2 : ((hdn false + d.length : Nat) : Int) = ((20 + d.length : Nat) : Int) := rfl
  rw [e2, e1, zcd]
  have e3 : u8i (((20 + d.length : Nat) : Int).fdiv 16777216) = 0 := by rw [Int.fdiv_eq_ediv_of_nonneg _ (by omega), show ((20 + d.length : Nat) : Int) / 16777216 = 0 by omega]; rfl
  have e4 : u8i (((20 + d.length : Nat) : Int).fdiv 65536) = 0 := by rw [Int.fdiv_eq_ediv_of_nonneg _ (by omega), show ((20 + d.length : Nat) : Int) / 65536 = 0 by omega]; rfl
  rw [e3, e4]
  rfl
 rw [hF]
 refine ⟨zkB n (zbm true false n fl d) (pad : Int) p q r fl d H bare, Runs.ofT0 (zd9 [10, p, q, r, 0, 0, 0, 0, 0, 0, 0, 0, 0, 0, 0, 0] [192, 168, 0, 1, 0, 0, 0, 0, 0, 0, 0, 0, 0, 0, 0, 0] H (zbm true false n fl d)) (F := 100) (n := 4) (pr := [(52, .bool false), (56, .bool false), (60, .bool false), (135, .bool true)]) ?_, _, congrArg some (congrArg (fun z => ABlk.cells z 1 Md.own _) kF)⟩
 refine (zpM n (zbm true false n fl d) (pad : Int) p q r fl d H bare _).trans ?_
 try rw [kC]
 try rw [kS]
 try rw [kE]
 refine (if_pos (wS)).trans ?_
 iterate 3 (refine (if_pos (decide_eq_false (by omega))).trans ?_)
 iterate 3 (refine (if_pos (by first | exact True.intro | rfl | omega | (simp [zaY, zaZ, zbn, hHl]; done) | (simp [zaY, zaZ, zbn, hHl]; omega))).trans ?_)
 refine (if_pos (zab.2 (zaT wS hA rfl))).trans ?_
 refine (if_pos (zab.2 (zaT wD hB rfl))).trans ?_
 iterate 3 (refine (if_pos (by first | exact True.intro | rfl | omega | (simp [zaY, zaZ, zbn, hHl]; done) | (simp [zaY, zaZ, zbn, hHl]; omega))).trans ?_)
 refine (if_pos (zab.2 (zdE (l := (zav (prt false) ((hdn false + d.length : Nat) : Int) (zbD true n) (zce true)) ++ (zaZ (zat n) 80 fl 0 ++ d)) (zam rfl (zbM kP (zaP kS (by simp [zaY, zaZ] <;> omega))) (by rw [List.length_append, ← zah (zav (prt false) ((hdn false + d.length : Nat) : Int) (zbD true n) (zce true)), ← kP]; simp [zaY, zaZ] <;> omega)) (by simp <;> omega) rfl))).trans ?_
 refine (if_pos (by rw [f5]; simp; exact hc)).trans ?_
 iterate 2 (refine (if_pos (by first | exact True.intro | rfl | omega | (simp [zaY, zaZ, zbn, hHl]; done) | (simp [zaY, zaZ, zbn, hHl]; omega))).trans ?_)
 refine (if_pos (zab.2 (zoh wS wD (by decide) ⟨by rw [za9]; rfl, by rw [zbN]; rfl, by rw [hdnE]; omega, by rw [hdnE]; omega⟩ hH rfl))).trans ?_
 iterate 11 (refine (if_pos (by first | exact True.intro | rfl | omega | (simp [zaY, zaZ, zbn, hHl]; done) | (simp [zaY, zaZ, zbn, hHl]; omega))).trans ?_)
 rfl

theorem znG (n : Int) (pad : Nat) (p q r fl : UInt8) (d : List UInt8) (hd : d.length ≤ 2000) (hpad : pad ≤ 100) (hp : kb1 n = p.toNat) (hq : kb2 n = q.toNat) (hr : kb3 n = r.toNat) (H : List UInt8) (hH : (zo8 true true n ((hdn true + d.length : Nat) : Int)) = H) (hc : 65535 - (zbm true true n fl d) ≠ 0) :
 ∃ h1, Runs Try.prog 14 [.agg (zkT true true n), .int .u8 (fl.toNat : Int), slB 0 d, .bool false, .bool false, .int .i64 (pad : Int)] [zaC d] (.sl (some (16, 0)) (14 + H.length + (8 + d.length) + (pad : Int).toNat) 0 false) h1 ∧
  ∃ par, h1[16]? = some (.cells (bys (ze9 true true false false n fl d pad)) 1 .own par) := by
 have wS : zas (zbD true n) = true := by rw [za9]; exact zaK rfl
 have wD : zas (zce true) = true := by rw [zbN]; exact zaK rfl
 have hA : zag (zbD true n) = [10, p, q, r, 0, 0, 0, 0, 0, 0, 0, 0, 0, 0, 0, 0] := by
  rw [za9, zbY]; unfold zb8; rw [hp, hq, hr]; simp
 have hB : zag (zce true) = [192, 168, 0, 1, 0, 0, 0, 0, 0, 0, 0, 0, 0, 0, 0, 0] := by rw [zbN, zbY]; rfl
 have hHl : H.length = 40 := by rw [← hH, zco _ _ _ _ (by unfold hdn; split <;> omega)]; rfl
 have hsr := zcv true true n fl d
 have hdnE : hdn true = 8 := rfl
 have f5 : IntKind.i64.wrap (65535 - (zbm true true n fl d)) = 65535 - (zbm true true n fl d) := zao (by omega)
 have kS : (cU n d) = bys (zaY (zat n) 80 (8 + d.length) 0 ++ d) := zvj n d hd
 have kE : cE true false = bys (zbn true false) := zl9 _ _
 have kC : (zae (zae (cU n d) 6 [b8 (IntKind.u8.wrap ((IntKind.i64.wrap (65535 - (zbm true true n fl d))).fdiv 256))]) 7 [b8 (IntKind.u8.wrap (IntKind.i64.wrap (65535 - (zbm true true n fl d))))]) = bys (zaY (zat n) 80 (8 + d.length) (65535 - (zbm true true n fl d)) ++ d) := by
  rw [f5, zwa (v := 65535 - (zbm true true n fl d)) kS (by simp [zaY, zaZ] <;> omega) rfl rfl, ziC (by omega)]
 have kF : List.take ((14 + H.length + (8 + d.length)) * 1) (List.take ((14 + H.length) * 1) (cE true false ++ List.take (H.length * 1) (bys H)) ++ List.take ((8 + d.length) * 1) (zae (zae (cU n d) 6 [b8 (IntKind.u8.wrap ((IntKind.i64.wrap (65535 - (zbm true true n fl d))).fdiv 256))]) 7 [b8 (IntKind.u8.wrap (IntKind.i64.wrap (65535 - (zbm true true n fl d))))])) ++ zex (pad : Int).toNat [b8 0] = bys (zbn true false ++ H ++ (zaY (zat n) 80 (8 + d.length) (65535 - (zbm true true n fl d)) ++ d) ++ List.replicate pad 0) :=
  zbM (zaP (zbM (zaP (zbM kE (zb6 _)) (by simp [zbn] <;> omega)) (zaP kC (by simp [zaY, zaZ] <;> omega))) (by simp [zbn, zaY, zaZ] <;> omega)) (by rw [show (pad : Int).toNat = pad by omega]; exact zdx pad)
 have hbc : zek true true false n fl d = (65535 - (zbm true true n fl d)) := by
  unfold zek
  rw [if_neg (by simp), if_neg (by simp; exact hc)]
 have hG : zj0 true true false n fl d = (zaY (zat n) 80 (8 + d.length) (65535 - (zbm true true n fl d)) ++ d) := by
  unfold zj0; rw [hbc]; rfl
 have hF : ze9 true true false false n fl d pad = zbn true false ++ H ++ (zaY (zat n) 80 (8 + d.length) (65535 - (zbm true true n fl d)) ++ d) ++ List.replicate pad 0 := by
  unfold ze9; rw [hG, hH]
 have kP : [b8 10, b8 (p.toNat : Int), b8 (q.toNat : Int), b8 (r.toNat : Int), b8 0, b8 0, b8 0, b8 0, b8 0, b8 0, b8 0, b8 0, b8 0, b8 0, b8 0, b8 0, b8 192, b8 168, b8 0, b8 1, b8 0, b8 0, b8 0, b8 0, b8 0, b8 0, b8 0, b8 0, b8 0, b8 0, b8 0, b8 0, b8 0, b8 0, b8 (IntKind.u8.wrap (((((8 + d.length) : Nat) : Int)).fdiv 256)), b8 (IntKind.u8.wrap (((8 + d.length) : Nat) : Int)), b8 0, b8 0, b8 0, b8 (zad (some (b8 17)))] = bys (zav (prt true) ((hdn true + d.length : Nat) : Int) (zbD true n) (zce true)) := by
  unfold zav
  rw [hA, hB]
  simp only [b8, zaH, zcd]
  rw [if_pos (by rw [za9]; rfl), zdi]
  have e1 : ((8 + d.length : Nat) : Int).fdiv 1 = ((8 + d.length : Nat) : Int) := by rw [Int.fdiv_eq_ediv_of_nonneg _ (by omega), Int.ediv_one]
  have e2 : ((hdn true + d.length : Nat) : Int) = ((8 + d.length : Nat) : Int) := rfl
  rw [e2, e1, zcd]
  have e3 : u8i (((8 + d.length : Nat) : Int).fdiv 16777216) = 0 := by rw [Int.fdiv_eq_ediv_of_nonneg _ (by omega), show ((8 + d.length : Nat) : Int) / 16777216 = 0 by omega]; rfl
  have e4 : u8i (((8 + d.length : Nat) : Int).fdiv 65536) = 0 := by rw [Int.fdiv_eq_ediv_of_nonneg _ (by omega), show ((8 + d.length : Nat) : Int) / 65536 = 0 by omega]; rfl
  rw [e3, e4]
  rfl
 rw [hF]
 refine ⟨zkC n (zbm true true n fl d) (pad : Int) p q r fl d H, Runs.ofT0 (zd9 [10, p, q, r, 0, 0, 0, 0, 0, 0, 0, 0, 0, 0, 0, 0] [192, 168, 0, 1, 0, 0, 0, 0, 0, 0, 0, 0, 0, 0, 0, 0] H (zbm true true n fl d)) (F := 100) (n := 4) (pr := [(52, .bool false), (56, .bool false), (60, .bool false), (135, .bool false)]) ?_, _, congrArg some (congrArg (fun z => ABlk.cells z 1 Md.own _) kF)⟩
 refine (zoZ n (zbm true true n fl d) (pad : Int) p q r fl d H _).trans ?_
 try rw [kC]
 try rw [kS]
 try rw [kE]
 refine (if_pos (wS)).trans ?_
 iterate 3 (refine (if_pos (decide_eq_false (by omega))).trans ?_)
 iterate 3 (refine (if_pos (by first | exact True.intro | rfl | omega | (simp [zaY, zaZ, zbn, hHl]; done) | (simp [zaY, zaZ, zbn, hHl]; omega))).trans ?_)
 refine (if_pos (zab.2 (zaT wS hA rfl))).trans ?_
 refine (if_pos (zab.2 (zaT wD hB rfl))).trans ?_
 iterate 3 (refine (if_pos (by first | exact True.intro | rfl | omega | (simp [zaY, zaZ, zbn, hHl]; done) | (simp [zaY, zaZ, zbn, hHl]; omega))).trans ?_)
 refine (if_pos (zab.2 (zdE (l := (zav (prt true) ((hdn true + d.length : Nat) : Int) (zbD true n) (zce true)) ++ (zaY (zat n) 80 (8 + d.length) 0 ++ d)) (zam rfl (zbM kP (zaP kS (by simp [zaY, zaZ] <;> omega))) (by rw [List.length_append, ← zah (zav (prt true) ((hdn true + d.length : Nat) : Int) (zbD true n) (zce true)), ← kP]; simp [zaY, zaZ] <;> omega)) (by simp <;> omega) rfl))).trans ?_
 refine (if_pos (by rw [f5]; simp; exact hc)).trans ?_
 iterate 2 (refine (if_pos (by first | exact True.intro | rfl | omega | (simp [zaY, zaZ, zbn, hHl]; done) | (simp [zaY, zaZ, zbn, hHl]; omega))).trans ?_)
 refine (if_pos (zab.2 (zoh wS wD (by decide) ⟨by rw [za9]; rfl, by rw [zbN]; rfl, by rw [hdnE]; omega, by rw [hdnE]; omega⟩ hH rfl))).trans ?_
 iterate 11 (refine (if_pos (by first | exact True.intro | rfl | omega | (simp [zaY, zaZ, zbn, hHl]; done) | (simp [zaY, zaZ, zbn, hHl]; omega))).trans ?_)
 rfl

theorem znI (n : Int) (pad : Nat) (p q r fl : UInt8) (d : List UInt8) (hd : d.length ≤ 2000) (hpad : pad ≤ 100) (hp : kb1 n = p.toNat) (hq : kb2 n = q.toNat) (hr : kb3 n = r.toNat) (H : List UInt8) (hH : (zo8 true true n ((hdn true + d.length : Nat) : Int)) = H) (hc : 65535 - (zbm true true n fl d) = 0) :
 ∃ h1, Runs Try.prog 14 [.agg (zkT true true n), .int .u8 (fl.toNat : Int), slB 0 d, .bool false, .bool false, .int .i64 (pad : Int)] [zaC d] (.sl (some (16, 0)) (14 + H.length + (8 + d.length) + (pad : Int).toNat) 0 false) h1 ∧
  ∃ par, h1[16]? = some (.cells (bys (ze9 true true false false n fl d pad)) 1 .own par) := by
 have wS : zas (zbD true n) = true := by rw [za9]; exact zaK rfl
 have wD : zas (zce true) = true := by rw [zbN]; exact zaK rfl
 have hA : zag (zbD true n) = [10, p, q, r, 0, 0, 0, 0, 0, 0, 0, 0, 0, 0, 0, 0] := by
  rw [za9, zbY]; unfold zb8; rw [hp, hq, hr]; simp
 have hB : zag (zce true) = [192, 168, 0, 1, 0, 0, 0, 0, 0, 0, 0, 0, 0, 0, 0, 0] := by rw [zbN, zbY]; rfl
 have hHl : H.length = 40 := by rw [← hH, zco _ _ _ _ (by unfold hdn; split <;> omega)]; rfl
 have hsr := zcv true true n fl d
 have hdnE : hdn true = 8 := rfl
 have f5 : IntKind.i64.wrap (65535 - (zbm true true n fl d)) = 65535 - (zbm true true n fl d) := zao (by omega)
 have kS : (cU n d) = bys (zaY (zat n) 80 (8 + d.length) 0 ++ d) := zvj n d hd
 have kE : cE true false = bys (zbn true false) := zl9 _ _
 have kC : (zae (zae (cU n d) 6 [b8 255]) 7 [b8 255]) = bys (zaY (zat n) 80 (8 + d.length) 65535 ++ d) := by
  rw [zwa (v := 65535) kS (by simp [zaY, zaZ] <;> omega) (by decide) (by decide), ziC (by omega)]
 have kF : List.take ((14 + H.length + (8 + d.length)) * 1) (List.take ((14 + H.length) * 1) (cE true false ++ List.take (H.length * 1) (bys H)) ++ List.take ((8 + d.length) * 1) (zae (zae (cU n d) 6 [b8 255]) 7 [b8 255])) ++ zex (pad : Int).toNat [b8 0] = bys (zbn true false ++ H ++ (zaY (zat n) 80 (8 + d.length) 65535 ++ d) ++ List.replicate pad 0) :=
  zbM (zaP (zbM (zaP (zbM kE (zb6 _)) (by simp [zbn] <;> omega)) (zaP kC (by simp [zaY, zaZ] <;> omega))) (by simp [zbn, zaY, zaZ] <;> omega)) (by rw [show (pad : Int).toNat = pad by omega]; exact zdx pad)
 have hbc : zek true true false n fl d = 65535 := by
  unfold zek
  rw [if_neg (by simp), if_pos ⟨rfl, hc⟩]
 have hG : zj0 true true false n fl d = (zaY (zat n) 80 (8 + d.length) 65535 ++ d) := by
  unfold zj0; rw [hbc]; rfl
 have hF : ze9 true true false false n fl d pad = zbn true false ++ H ++ (zaY (zat n) 80 (8 + d.length) 65535 ++ d) ++ List.replicate pad 0 := by
  unfold ze9; rw [hG, hH]
 have kP : [b8 10, b8 (p.toNat : Int), b8 (q.toNat : Int), b8 (r.toNat : Int), b8 0, b8 0, b8 0, b8 0, b8 0, b8 0, b8 0, b8 0, b8 0, b8 0, b8 0, b8 0, b8 192, b8 168, b8 0, b8 1, b8 0, b8 0, b8 0, b8 0, b8 0, b8 0, b8 0, b8 0, b8 0, b8 0, b8 0, b8 0, b8 0, b8 0, b8 (IntKind.u8.wrap (((((8 + d.length) : Nat) : Int)).fdiv 256)), b8 (IntKind.u8.wrap (((8 + d.length) : Nat) : Int)), b8 0, b8 0, b8 0, b8 (zad (some (b8 17)))] = bys (zav (prt true) ((hdn true + d.length : Nat) : Int) (zbD true n) (zce true)) := by
  unfold zav
  rw [hA, hB]
  simp only [b8, zaH, zcd]
  rw [if_pos (by rw [za9]; rfl), zdi]
  have e1 : ((8 + d.length : Nat) : Int).fdiv 1 = ((8 + d.length : Nat) : Int) := by rw [Int.fdiv_eq_ediv_of_nonneg _ (by omega), Int.ediv_one]
  have e2 : ((hdn true + d.length : Nat) : Int) = ((8 + d.length : Nat) : Int) := rfl
  rw [e2, e1, zcd]
  have e3 : u8i (((8 + d.length : Nat) : Int).fdiv 16777216) = 0 := by rw [Int.fdiv_eq_ediv_of_nonneg _ (by omega), show ((8 + d.length : Nat) : Int) / 16777216 = 0 by omega]; rfl
  have e4 : u8i (((8 + d.length : Nat) : Int).fdiv 65536) = 0 := by rw [Int.fdiv_eq_ediv_of_nonneg _ (by omega), show ((8 + d.length : Nat) : Int) / 65536 = 0 by omega]; rfl
  rw [e3, e4]
  rfl
 rw [hF]
 refine ⟨zkg n (zbm true true n fl d) (pad : Int) p q r fl d H, Runs.ofT0 (zd9 [10, p, q, r, 0, 0, 0, 0, 0, 0, 0, 0, 0, 0, 0, 0] [192, 168, 0, 1, 0, 0, 0, 0, 0, 0, 0, 0, 0, 0, 0, 0] H (zbm true true n fl d)) (F := 100) (n := 4) (pr := [(52, .bool false), (56, .bool false), (60, .bool false), (135, .bool true)]) ?_, _, congrArg some (congrArg (fun z => ABlk.cells z 1 Md.own _) kF)⟩
 refine (zp9 n (zbm true true n fl d) (pad : Int) p q r fl d H _).trans ?_
 try rw [kC]
 try rw [kS]
 try rw [kE]
 refine (if_pos (wS)).trans ?_
 iterate 3 (refine (if_pos (decide_eq_false (by omega))).trans ?_)
 iterate 3 (refine (if_pos (by first | exact True.intro | rfl | omega | (simp [zaY, zaZ, zbn, hHl]; done) | (simp [zaY, zaZ, zbn, hHl]; omega))).trans ?_)
 refine (if_pos (zab.2 (zaT wS hA rfl))).trans ?_
 refine (if_pos (zab.2 (zaT wD hB rfl))).trans ?_
 iterate 3 (refine (if_pos (by first | exact True.intro | rfl | omega | (simp [zaY, zaZ, zbn, hHl]; done) | (simp [zaY, zaZ, zbn, hHl]; omega))).trans ?_)
 refine (if_pos (zab.2 (zdE (l := (zav (prt true) ((hdn true + d.length : Nat) : Int) (zbD true n) (zce true)) ++ (zaY (zat n) 80 (8 + d.length) 0 ++ d)) (zam rfl (zbM kP (zaP kS (by simp [zaY, zaZ] <;> omega))) (by rw [List.length_append, ← zah (zav (prt true) ((hdn true + d.length : Nat) : Int) (zbD true n) (zce true)), ← kP]; simp [zaY, zaZ] <;> omega)) (by simp <;> omega) rfl))).trans ?_
 refine (if_pos (by rw [f5]; simp; exact hc)).trans ?_
 iterate 2 (refine (if_pos (by first | exact True.intro | rfl | omega | (simp [zaY, zaZ, zbn, hHl]; done) | (simp [zaY, zaZ, zbn, hHl]; omega))).trans ?_)
 refine (if_pos (zab.2 (zoh wS wD (by decide) ⟨by rw [za9]; rfl, by rw [zbN]; rfl, by rw [hdnE]; omega, by rw [hdnE]; omega⟩ hH rfl))).trans ?_
 iterate 11 (refine (if_pos (by first | exact True.intro | rfl | omega | (simp [zaY, zaZ, zbn, hHl]; done) | (simp [zaY, zaZ, zbn, hHl]; omega))).trans ?_)
 rfl

theorem zn5 (v u tag bare : Bool) (n : Int) (fl : UInt8) (d : List UInt8) (pad : Nat) (hd : d.length ≤ 2000) : (ze9 v u tag bare n fl d pad).length = (if tag = true then 18 else 14) + (zo8 v u n ((hdn u + d.length : Nat) : Int)).length + (hdn u + d.length) + pad := by
 unfold ze9 zj0
 rw [List.length_append, List.length_append, List.length_append, zaQ, List.length_replicate]
 cases v <;> cases tag <;> rfl
theorem zyb (n : Int) : kb1 n = ((u8i (kb1 n)).toNat : Int) ∧ kb2 n = ((u8i (kb2 n)).toNat : Int) ∧ kb3 n = ((u8i (kb3 n)).toNat : Int) := ⟨(zgI (zm3 n)).symm, (zgI (zmW n)).symm, (zgI (zl3 n)).symm⟩

theorem zv3 (v u : Bool) (n : Int) (fl : UInt8) (d : List UInt8) (pad q : Nat) (hd : d.length ≤ 2000) (hp : pad ≤ 100) :
 ∃ v1 h1', Runs Try.prog 14 [.agg (zkT v u n), .int .u8 (fl.toNat : Int), slB 0 d, .bool false, .bool false, .int .i64 (pad : Int)] [zaC d] v1 h1' ∧ ∃ ks, Den h1' [zaC d].length q ks v1 (slB q (ze9 v u false false n fl d pad)) [zbo (ze9 v u false false n fl d pad)] ∧ zkX ks := by
 have hlen := zn5 v u false false n fl d pad hd
 obtain ⟨k1, k2, k3⟩ := zyb n
 have fin : ∀ {blk m : Nat} {h1 : zaa}, Runs Try.prog 14 [.agg (zkT v u n), .int .u8 (fl.toNat : Int), slB 0 d, .bool false, .bool false, .int .i64 (pad : Int)] [zaC d] (.sl (some (blk, 0)) m 0 false) h1 ∧ (∃ par, h1[blk]? = some (.cells (bys (ze9 v u false false n fl d pad)) 1 .own par)) → 1 ≤ blk → m = (ze9 v u false false n fl d pad).length →
  ∃ v1 h1', Runs Try.prog 14 [.agg (zkT v u n), .int .u8 (fl.toNat : Int), slB 0 d, .bool false, .bool false, .int .i64 (pad : Int)] [zaC d] v1 h1' ∧ ∃ ks, Den h1' [zaC d].length q ks v1 (slB q (ze9 v u false false n fl d pad)) [zbo (ze9 v u false false n fl d pad)] ∧ zkX ks := by
  rintro blk m h1 ⟨hx, par, hc⟩ hb hm
  exact ⟨_, h1, hx, [some blk], zug (by simpa using hb) hc rfl hm, zdJ _⟩
 cases v
 · cases u
   · by_cases hc : 65535 - zbm false false n fl d = 0
     · obtain ⟨h1, hx⟩ := zno n pad _ _ _ fl d false hd hp k1 k2 k3 _ rfl hc
       exact fin hx (by decide) (by rw [hlen]; simp [hdn])
     · obtain ⟨h1, hx⟩ := znP n pad _ _ _ fl d false hd hp k1 k2 k3 _ rfl hc
       exact fin hx (by decide) (by rw [hlen]; simp [hdn])
   · by_cases hc : 65535 - zbm false true n fl d = 0
     · obtain ⟨h1, hx⟩ := znK n pad _ _ _ fl d hd hp k1 k2 k3 _ rfl hc
       exact fin hx (by decide) (by rw [hlen]; simp [hdn])
     · obtain ⟨h1, hx⟩ := znD n pad _ _ _ fl d hd hp k1 k2 k3 _ rfl hc
       exact fin hx (by decide) (by rw [hlen]; simp [hdn])
 · cases u
   · by_cases hc : 65535 - zbm true false n fl d = 0
     · obtain ⟨h1, hx⟩ := znq n pad _ _ _ fl d false hd hp k1 k2 k3 _ rfl hc
       exact fin hx (by decide) (by rw [hlen]; simp [hdn])
     · obtain ⟨h1, hx⟩ := znR n pad _ _ _ fl d false hd hp k1 k2 k3 _ rfl hc
       exact fin hx (by decide) (by rw [hlen]; simp [hdn])
   · by_cases hc : 65535 - zbm true true n fl d = 0
     · obtain ⟨h1, hx⟩ := znI n pad _ _ _ fl d hd hp k1 k2 k3 _ rfl hc
       exact fin hx (by decide) (by rw [hlen]; simp [hdn])
     · obtain ⟨h1, hx⟩ := znG n pad _ _ _ fl d hd hp k1 k2 k3 _ rfl hc
       exact fin hx (by decide) (by rw [hlen]; simp [hdn])

inductive BuildR00 : List AV → zaa → AV → zaa → Prop
 | mk (v u : Bool) (n : Int) (fl : UInt8) (d : List UInt8) (pad : Nat) (h : zaa) (a : AV) (k : Nat) (g : bOk h a = true ∧ bOf h a = d) (hd : d.length ≤ 2000) (hp : pad ≤ 100) (hk : h.length = k) :
  BuildR00 [.agg (zkT v u n), .int .u8 (fl.toNat : Int), a, .bool false, .bool false, .int .i64 (pad : Int)] h (slB k (ze9 v u false false n fl d pad)) [zbo (ze9 v u false false n fl d pad)]
theorem zuk (l : List (Nat × AV × zaa)) : SoundE Try.prog 14 (zbj (zv8 BuildR00 l)) := by
 refine zhP (fun args h v new hR => ?_) l
 cases hR with
 | mk v u n fl d pad _ a k g hd hp hk =>
 subst hk
 have hf : AV.free (.agg (zkT v u n)) = true := by cases v <;> rfl
 obtain ⟨gb, rfl⟩ := g
 refine ⟨[.agg (zkT v u n), .int .u8 (fl.toNat : Int), slB 0 (bOf h a), .bool false, .bool false, .int .i64 (pad : Int)], [zaC (bOf h a)], .cons _ _ _ _ _ _ _ (.flat _ _ hf) (.cons _ _ _ _ _ _ _ (.flat _ _ rfl) (.cons _ _ _ _ _ _ _ (zaJ gb 0) (.cons _ _ _ _ _ _ _ (.flat _ _ rfl) (.cons _ _ _ _ _ _ _ (.flat _ _ rfl) (.cons _ _ _ _ _ _ _ (.flat _ _ rfl) (.nil _)))))), ?_⟩
 exact zv3 v u n fl _ pad _ hd hp

end Go.Proofs.Ytnchnjkakddhlaa.L
