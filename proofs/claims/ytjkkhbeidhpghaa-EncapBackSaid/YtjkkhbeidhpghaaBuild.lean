/- The reference's Build: what it yields. -/
import Derived.Test.YtjkkhbeidhpghaaBuildM
set_option autoImplicit false
set_option maxRecDepth 100000
set_option linter.unusedVariables false
set_option linter.unusedSimpArgs false
namespace Go.Proofs.Ytjkkhbeidhpghaa.L
open Go Go.Abs

theorem say4Mk {h : AHeap} {cs ds : List AV} {pr n : Int} {M : List UInt8} {k : Nat} (hc : adrWf cs = true) (hd : adrWf ds = true) (hp : 0 ≤ pr ∧ pr < 256) (hm : makes4 cs ds n) (hM : make4 cs ds pr n = M) (hk : h.length = k) :
    Says eMk4 [.agg cs, .agg ds, .int .u8 pr, .int .i64 n] h (.tup [slB k M, .bool true]) [ownB M] := ⟨by
  show some (adrWf cs && (adrWf ds && decide (0 ≤ pr ∧ pr < 256)), AV.tup [slB h.length (make4 cs ds pr n), .bool (decide (makes4 cs ds n))], h ++ [ownB (make4 cs ds pr n)]) = _
  rw [hc, hd, decide_eq_true hm, hM, hk, decide_eq_true hp]; rfl⟩
theorem say6Mk {h : AHeap} {cs ds : List AV} {pr n : Int} {M : List UInt8} {k : Nat} (hc : adrWf cs = true) (hd : adrWf ds = true) (hp : 0 ≤ pr ∧ pr < 256) (hm : makes6 cs ds n) (hM : make6 cs ds pr n = M) (hk : h.length = k) :
    Says eMk6 [.agg cs, .agg ds, .int .u8 pr, .int .i64 n] h (.tup [slB k M, .bool true]) [ownB M] := ⟨by
  show some (adrWf cs && (adrWf ds && decide (0 ≤ pr ∧ pr < 256)), AV.tup [slB h.length (make6 cs ds pr n), .bool (decide (makes6 cs ds n))], h ++ [ownB (make6 cs ds pr n)]) = _
  rw [hc, hd, decide_eq_true hm, hM, hk, decide_eq_true hp]; rfl⟩

theorem runBuild4AF (n : Int) (pad : Nat) (p q r fl : UInt8) (d : List UInt8) (bare : Bool) (hd : d.length ≤ 2000) (hpad : pad ≤ 100) (hp : kb1 n = p.toNat) (hq : kb2 n = q.toNat) (hr : kb3 n = r.toNat) (H : List UInt8) (hH : (bldH false false n ((hdn false + d.length : Nat) : Int)) = H) (hc : 65535 - (bldS false false n fl d) ≠ 0) :
    ∃ h1, Runs Try.prog 8 [.agg (keyV false false n), .int .u8 (fl.toNat : Int), slB 0 d, .bool false, .bool bare, .int .i64 (pad : Int)] [farB d] (.sl (some (16, 0)) (14 + H.length + (20 + d.length) + (pad : Int).toNat) 0 false) h1 ∧
      ∃ par, h1[16]? = some (.cells (bys (bldF false false false bare n fl d pad)) 1 .own par) := by
  have wS : adrWf (kSrc false n) = true := by rw [kSrc_B]; exact adrB_wf rfl
  have wD : adrWf (kDst false) = true := by rw [kDst_B]; exact adrB_wf rfl
  have hA : adrBytes (kSrc false n) = [10, p, q, r] := by
    rw [kSrc_B, adrB_F]; unfold kSrcB; rw [hp, hq, hr]; simp
  have hB : adrBytes (kDst false) = [192, 168, 0, 1] := by rw [kDst_B, adrB_F]; rfl
  have hHl : H.length = 20 := by rw [← hH, bldH_length _ _ _ _ (by unfold hdn; split <;> omega)]; rfl
  have hsr := bldS_range false false n fl d
  have hdnE : hdn false = 20 := rfl
  have f5 : IntKind.i64.wrap (65535 - (bldS false false n fl d)) = 65535 - (bldS false false n fl d) := wrapI64 (by omega)
  have kS : (cT n fl d) = bys (tcpH (kport n) 80 fl 0 ++ d) := cT_eq n fl d
  have kE : cE false false = bys (bldE false false) := cE_eq _ _
  have kC : (putCells (putCells (cT n fl d) 16 [b8 (IntKind.u8.wrap ((IntKind.i64.wrap (65535 - (bldS false false n fl d))).fdiv 256))]) 17 [b8 (IntKind.u8.wrap (IntKind.i64.wrap (65535 - (bldS false false n fl d))))]) = bys (tcpH (kport n) 80 fl (65535 - (bldS false false n fl d)) ++ d) := by
    rw [f5, put2 (v := 65535 - (bldS false false n fl d)) kS (by simp [udpH, tcpH] <;> omega) rfl rfl, tcpH_put (by omega)]
  have kF : List.take ((14 + H.length + (20 + d.length)) * 1) (List.take ((14 + H.length) * 1) (cE false false ++ List.take (H.length * 1) (bys H)) ++ List.take ((20 + d.length) * 1) (putCells (putCells (cT n fl d) 16 [b8 (IntKind.u8.wrap ((IntKind.i64.wrap (65535 - (bldS false false n fl d))).fdiv 256))]) 17 [b8 (IntKind.u8.wrap (IntKind.i64.wrap (65535 - (bldS false false n fl d))))])) ++ zrep (pad : Int).toNat [b8 0] = bys (bldE false false ++ H ++ (tcpH (kport n) 80 fl (65535 - (bldS false false n fl d)) ++ d) ++ List.replicate pad 0) :=
    bysApp (bysTake2 (bysApp (bysTake2 (bysApp kE (bys_full _)) (by simp [bldE] <;> omega)) (bysTake2 kC (by simp [udpH, tcpH] <;> omega))) (by simp [bldE, udpH, tcpH] <;> omega)) (by rw [show (pad : Int).toNat = pad by omega]; exact zrep_byte pad)
  have hbc : bldC false false bare n fl d = (65535 - (bldS false false n fl d)) := by
    unfold bldC
    rw [if_neg (by simp), if_neg (by simp)]
  have hG : bldG false false bare n fl d = (tcpH (kport n) 80 fl (65535 - (bldS false false n fl d)) ++ d) := by
    unfold bldG; rw [hbc]; rfl
  have hF : bldF false false false bare n fl d pad = bldE false false ++ H ++ (tcpH (kport n) 80 fl (65535 - (bldS false false n fl d)) ++ d) ++ List.replicate pad 0 := by
    unfold bldF; rw [hG, hH]
  have kP : [b8 10, b8 (p.toNat : Int), b8 (q.toNat : Int), b8 (r.toNat : Int), b8 192, b8 168, b8 0, b8 1, b8 0, b8 (intV (some (b8 6))), b8 (IntKind.u8.wrap (((((20 + d.length) : Nat) : Int)).fdiv 256)), b8 (IntKind.u8.wrap (((20 + d.length) : Nat) : Int))] = bys (pseudoL (prt false) ((hdn false + d.length : Nat) : Int) (kSrc false n) (kDst false)) := by
    unfold pseudoL
    rw [hA, hB]
    simp only [b8, wrapU8_byte, fdiv256]
    rw [if_neg (by rw [kSrc_B]; simp [adrV6]), bigR8_2]
    have e1 : ((20 + d.length : Nat) : Int).fdiv 1 = ((20 + d.length : Nat) : Int) := by rw [Int.fdiv_eq_ediv_of_nonneg _ (by omega), Int.ediv_one]
    have e2 : ((hdn false + d.length : Nat) : Int) = ((20 + d.length : Nat) : Int) := rfl
    rw [e2, e1, fdiv256]
    rfl
  rw [hF]
  refine ⟨hBuild4AF8 n (bldS false false n fl d) (pad : Int) p q r fl d H bare, Runs.ofT0 (tBuildOk [10, p, q, r] [192, 168, 0, 1] H (bldS false false n fl d)) (F := 100) (n := 4) (pr := [(52, .bool false), (56, .bool false), (60, .bool false), (135, .bool false)]) ?_, _, congrArg some (congrArg (fun z => ABlk.cells z 1 Md.own _) kF)⟩
  refine (nfBuild4AF n (bldS false false n fl d) (pad : Int) p q r fl d H bare _).trans ?_
  try rw [kC]
  try rw [kS]
  try rw [kE]
  refine (if_pos (wS)).trans ?_
  iterate 3 (refine (if_pos (decide_eq_false (by omega))).trans ?_)
  iterate 3 (refine (if_pos (by first | exact True.intro | rfl | omega | (simp [udpH, tcpH, bldE, hHl]; done) | (simp [udpH, tcpH, bldE, hHl]; omega))).trans ?_)
  refine (if_pos (cdec_true.2 (sayBytes wS hA rfl))).trans ?_
  refine (if_pos (cdec_true.2 (sayBytes wD hB rfl))).trans ?_
  iterate 3 (refine (if_pos (by first | exact True.intro | rfl | omega | (simp [udpH, tcpH, bldE, hHl]; done) | (simp [udpH, tcpH, bldE, hHl]; omega))).trans ?_)
  refine (if_pos (cdec_true.2 (sayRSum (l := (pseudoL (prt false) ((hdn false + d.length : Nat) : Int) (kSrc false n) (kDst false)) ++ (tcpH (kport n) 80 fl 0 ++ d)) (bOk_row rfl (bysApp kP (bysTake2 kS (by simp [udpH, tcpH] <;> omega))) (by rw [List.length_append, ← bys_length (pseudoL (prt false) ((hdn false + d.length : Nat) : Int) (kSrc false n) (kDst false)), ← kP]; simp [udpH, tcpH] <;> omega)) (by simp <;> omega) rfl))).trans ?_
  refine (if_pos (by rw [f5]; simp; exact hc)).trans ?_
  iterate 2 (refine (if_pos (by first | exact True.intro | rfl | omega | (simp [udpH, tcpH, bldE, hHl]; done) | (simp [udpH, tcpH, bldE, hHl]; omega))).trans ?_)
  refine (if_pos (cdec_true.2 (say4Mk wS wD (by decide) ⟨by rw [kSrc_B]; rfl, by rw [kDst_B]; rfl, by rw [hdnE]; omega, by rw [hdnE]; omega⟩ hH rfl))).trans ?_
  iterate 11 (refine (if_pos (by first | exact True.intro | rfl | omega | (simp [udpH, tcpH, bldE, hHl]; done) | (simp [udpH, tcpH, bldE, hHl]; omega))).trans ?_)
  rfl

theorem runBuild4AT (n : Int) (pad : Nat) (p q r fl : UInt8) (d : List UInt8) (bare : Bool) (hd : d.length ≤ 2000) (hpad : pad ≤ 100) (hp : kb1 n = p.toNat) (hq : kb2 n = q.toNat) (hr : kb3 n = r.toNat) (H : List UInt8) (hH : (bldH false false n ((hdn false + d.length : Nat) : Int)) = H) (hc : 65535 - (bldS false false n fl d) ≠ 0) :
    ∃ h1, Runs Try.prog 8 [.agg (keyV false false n), .int .u8 (fl.toNat : Int), slB 0 d, .bool true, .bool bare, .int .i64 (pad : Int)] [farB d] (.sl (some (18, 0)) (18 + H.length + (20 + d.length) + (pad : Int).toNat) 0 false) h1 ∧
      ∃ par, h1[18]? = some (.cells (bys (bldF false false true bare n fl d pad)) 1 .own par) := by
  have wS : adrWf (kSrc false n) = true := by rw [kSrc_B]; exact adrB_wf rfl
  have wD : adrWf (kDst false) = true := by rw [kDst_B]; exact adrB_wf rfl
  have hA : adrBytes (kSrc false n) = [10, p, q, r] := by
    rw [kSrc_B, adrB_F]; unfold kSrcB; rw [hp, hq, hr]; simp
  have hB : adrBytes (kDst false) = [192, 168, 0, 1] := by rw [kDst_B, adrB_F]; rfl
  have hHl : H.length = 20 := by rw [← hH, bldH_length _ _ _ _ (by unfold hdn; split <;> omega)]; rfl
  have hsr := bldS_range false false n fl d
  have hdnE : hdn false = 20 := rfl
  have f5 : IntKind.i64.wrap (65535 - (bldS false false n fl d)) = 65535 - (bldS false false n fl d) := wrapI64 (by omega)
  have kS : (cT n fl d) = bys (tcpH (kport n) 80 fl 0 ++ d) := cT_eq n fl d
  have kE : cE false true = bys (bldE false true) := cE_eq _ _
  have kC : (putCells (putCells (cT n fl d) 16 [b8 (IntKind.u8.wrap ((IntKind.i64.wrap (65535 - (bldS false false n fl d))).fdiv 256))]) 17 [b8 (IntKind.u8.wrap (IntKind.i64.wrap (65535 - (bldS false false n fl d))))]) = bys (tcpH (kport n) 80 fl (65535 - (bldS false false n fl d)) ++ d) := by
    rw [f5, put2 (v := 65535 - (bldS false false n fl d)) kS (by simp [udpH, tcpH] <;> omega) rfl rfl, tcpH_put (by omega)]
  have kF : List.take ((18 + H.length + (20 + d.length)) * 1) (List.take ((18 + H.length) * 1) (cE false true ++ List.take (H.length * 1) (bys H)) ++ List.take ((20 + d.length) * 1) (putCells (putCells (cT n fl d) 16 [b8 (IntKind.u8.wrap ((IntKind.i64.wrap (65535 - (bldS false false n fl d))).fdiv 256))]) 17 [b8 (IntKind.u8.wrap (IntKind.i64.wrap (65535 - (bldS false false n fl d))))])) ++ zrep (pad : Int).toNat [b8 0] = bys (bldE false true ++ H ++ (tcpH (kport n) 80 fl (65535 - (bldS false false n fl d)) ++ d) ++ List.replicate pad 0) :=
    bysApp (bysTake2 (bysApp (bysTake2 (bysApp kE (bys_full _)) (by simp [bldE] <;> omega)) (bysTake2 kC (by simp [udpH, tcpH] <;> omega))) (by simp [bldE, udpH, tcpH] <;> omega)) (by rw [show (pad : Int).toNat = pad by omega]; exact zrep_byte pad)
  have hbc : bldC false false bare n fl d = (65535 - (bldS false false n fl d)) := by
    unfold bldC
    rw [if_neg (by simp), if_neg (by simp)]
  have hG : bldG false false bare n fl d = (tcpH (kport n) 80 fl (65535 - (bldS false false n fl d)) ++ d) := by
    unfold bldG; rw [hbc]; rfl
  have hF : bldF false false true bare n fl d pad = bldE false true ++ H ++ (tcpH (kport n) 80 fl (65535 - (bldS false false n fl d)) ++ d) ++ List.replicate pad 0 := by
    unfold bldF; rw [hG, hH]
  have kP : [b8 10, b8 (p.toNat : Int), b8 (q.toNat : Int), b8 (r.toNat : Int), b8 192, b8 168, b8 0, b8 1, b8 0, b8 (intV (some (b8 6))), b8 (IntKind.u8.wrap (((((20 + d.length) : Nat) : Int)).fdiv 256)), b8 (IntKind.u8.wrap (((20 + d.length) : Nat) : Int))] = bys (pseudoL (prt false) ((hdn false + d.length : Nat) : Int) (kSrc false n) (kDst false)) := by
    unfold pseudoL
    rw [hA, hB]
    simp only [b8, wrapU8_byte, fdiv256]
    rw [if_neg (by rw [kSrc_B]; simp [adrV6]), bigR8_2]
    have e1 : ((20 + d.length : Nat) : Int).fdiv 1 = ((20 + d.length : Nat) : Int) := by rw [Int.fdiv_eq_ediv_of_nonneg _ (by omega), Int.ediv_one]
    have e2 : ((hdn false + d.length : Nat) : Int) = ((20 + d.length : Nat) : Int) := rfl
    rw [e2, e1, fdiv256]
    rfl
  rw [hF]
  refine ⟨hBuild4AT8 n (bldS false false n fl d) (pad : Int) p q r fl d H bare, Runs.ofT0 (tBuildOk [10, p, q, r] [192, 168, 0, 1] H (bldS false false n fl d)) (F := 100) (n := 4) (pr := [(52, .bool false), (56, .bool false), (60, .bool false), (135, .bool false)]) ?_, _, congrArg some (congrArg (fun z => ABlk.cells z 1 Md.own _) kF)⟩
  refine (nfBuild4AT n (bldS false false n fl d) (pad : Int) p q r fl d H bare _).trans ?_
  try rw [kC]
  try rw [kS]
  try rw [kE]
  refine (if_pos (wS)).trans ?_
  iterate 3 (refine (if_pos (decide_eq_false (by omega))).trans ?_)
  iterate 3 (refine (if_pos (by first | exact True.intro | rfl | omega | (simp [udpH, tcpH, bldE, hHl]; done) | (simp [udpH, tcpH, bldE, hHl]; omega))).trans ?_)
  refine (if_pos (cdec_true.2 (sayBytes wS hA rfl))).trans ?_
  refine (if_pos (cdec_true.2 (sayBytes wD hB rfl))).trans ?_
  iterate 3 (refine (if_pos (by first | exact True.intro | rfl | omega | (simp [udpH, tcpH, bldE, hHl]; done) | (simp [udpH, tcpH, bldE, hHl]; omega))).trans ?_)
  refine (if_pos (cdec_true.2 (sayRSum (l := (pseudoL (prt false) ((hdn false + d.length : Nat) : Int) (kSrc false n) (kDst false)) ++ (tcpH (kport n) 80 fl 0 ++ d)) (bOk_row rfl (bysApp kP (bysTake2 kS (by simp [udpH, tcpH] <;> omega))) (by rw [List.length_append, ← bys_length (pseudoL (prt false) ((hdn false + d.length : Nat) : Int) (kSrc false n) (kDst false)), ← kP]; simp [udpH, tcpH] <;> omega)) (by simp <;> omega) rfl))).trans ?_
  refine (if_pos (by rw [f5]; simp; exact hc)).trans ?_
  iterate 2 (refine (if_pos (by first | exact True.intro | rfl | omega | (simp [udpH, tcpH, bldE, hHl]; done) | (simp [udpH, tcpH, bldE, hHl]; omega))).trans ?_)
  refine (if_pos (cdec_true.2 (say4Mk wS wD (by decide) ⟨by rw [kSrc_B]; rfl, by rw [kDst_B]; rfl, by rw [hdnE]; omega, by rw [hdnE]; omega⟩ hH rfl))).trans ?_
  iterate 11 (refine (if_pos (by first | exact True.intro | rfl | omega | (simp [udpH, tcpH, bldE, hHl]; done) | (simp [udpH, tcpH, bldE, hHl]; omega))).trans ?_)
  rfl

theorem runBuild4DF (n : Int) (pad : Nat) (p q r fl : UInt8) (d : List UInt8) (bare : Bool) (hd : d.length ≤ 2000) (hpad : pad ≤ 100) (hp : kb1 n = p.toNat) (hq : kb2 n = q.toNat) (hr : kb3 n = r.toNat) (H : List UInt8) (hH : (bldH false false n ((hdn false + d.length : Nat) : Int)) = H) (hc : 65535 - (bldS false false n fl d) = 0) :
    ∃ h1, Runs Try.prog 8 [.agg (keyV false false n), .int .u8 (fl.toNat : Int), slB 0 d, .bool false, .bool bare, .int .i64 (pad : Int)] [farB d] (.sl (some (16, 0)) (14 + H.length + (20 + d.length) + (pad : Int).toNat) 0 false) h1 ∧
      ∃ par, h1[16]? = some (.cells (bys (bldF false false false bare n fl d pad)) 1 .own par) := by
  have wS : adrWf (kSrc false n) = true := by rw [kSrc_B]; exact adrB_wf rfl
  have wD : adrWf (kDst false) = true := by rw [kDst_B]; exact adrB_wf rfl
  have hA : adrBytes (kSrc false n) = [10, p, q, r] := by
    rw [kSrc_B, adrB_F]; unfold kSrcB; rw [hp, hq, hr]; simp
  have hB : adrBytes (kDst false) = [192, 168, 0, 1] := by rw [kDst_B, adrB_F]; rfl
  have hHl : H.length = 20 := by rw [← hH, bldH_length _ _ _ _ (by unfold hdn; split <;> omega)]; rfl
  have hsr := bldS_range false false n fl d
  have hdnE : hdn false = 20 := rfl
  have f5 : IntKind.i64.wrap (65535 - (bldS false false n fl d)) = 65535 - (bldS false false n fl d) := wrapI64 (by omega)
  have kS : (cT n fl d) = bys (tcpH (kport n) 80 fl 0 ++ d) := cT_eq n fl d
  have kE : cE false false = bys (bldE false false) := cE_eq _ _
  have kC : (putCells (putCells (cT n fl d) 16 [b8 (IntKind.u8.wrap ((IntKind.i64.wrap (65535 - (bldS false false n fl d))).fdiv 256))]) 17 [b8 (IntKind.u8.wrap (IntKind.i64.wrap (65535 - (bldS false false n fl d))))]) = bys (tcpH (kport n) 80 fl (65535 - (bldS false false n fl d)) ++ d) := by
    rw [f5, put2 (v := 65535 - (bldS false false n fl d)) kS (by simp [udpH, tcpH] <;> omega) rfl rfl, tcpH_put (by omega)]
  have kF : List.take ((14 + H.length + (20 + d.length)) * 1) (List.take ((14 + H.length) * 1) (cE false false ++ List.take (H.length * 1) (bys H)) ++ List.take ((20 + d.length) * 1) (putCells (putCells (cT n fl d) 16 [b8 (IntKind.u8.wrap ((IntKind.i64.wrap (65535 - (bldS false false n fl d))).fdiv 256))]) 17 [b8 (IntKind.u8.wrap (IntKind.i64.wrap (65535 - (bldS false false n fl d))))])) ++ zrep (pad : Int).toNat [b8 0] = bys (bldE false false ++ H ++ (tcpH (kport n) 80 fl (65535 - (bldS false false n fl d)) ++ d) ++ List.replicate pad 0) :=
    bysApp (bysTake2 (bysApp (bysTake2 (bysApp kE (bys_full _)) (by simp [bldE] <;> omega)) (bysTake2 kC (by simp [udpH, tcpH] <;> omega))) (by simp [bldE, udpH, tcpH] <;> omega)) (by rw [show (pad : Int).toNat = pad by omega]; exact zrep_byte pad)
  have hbc : bldC false false bare n fl d = (65535 - (bldS false false n fl d)) := by
    unfold bldC
    rw [if_neg (by simp), if_neg (by simp)]
  have hG : bldG false false bare n fl d = (tcpH (kport n) 80 fl (65535 - (bldS false false n fl d)) ++ d) := by
    unfold bldG; rw [hbc]; rfl
  have hF : bldF false false false bare n fl d pad = bldE false false ++ H ++ (tcpH (kport n) 80 fl (65535 - (bldS false false n fl d)) ++ d) ++ List.replicate pad 0 := by
    unfold bldF; rw [hG, hH]
  have kP : [b8 10, b8 (p.toNat : Int), b8 (q.toNat : Int), b8 (r.toNat : Int), b8 192, b8 168, b8 0, b8 1, b8 0, b8 (intV (some (b8 6))), b8 (IntKind.u8.wrap (((((20 + d.length) : Nat) : Int)).fdiv 256)), b8 (IntKind.u8.wrap (((20 + d.length) : Nat) : Int))] = bys (pseudoL (prt false) ((hdn false + d.length : Nat) : Int) (kSrc false n) (kDst false)) := by
    unfold pseudoL
    rw [hA, hB]
    simp only [b8, wrapU8_byte, fdiv256]
    rw [if_neg (by rw [kSrc_B]; simp [adrV6]), bigR8_2]
    have e1 : ((20 + d.length : Nat) : Int).fdiv 1 = ((20 + d.length : Nat) : Int) := by rw [Int.fdiv_eq_ediv_of_nonneg _ (by omega), Int.ediv_one]
    have e2 : ((hdn false + d.length : Nat) : Int) = ((20 + d.length : Nat) : Int) := rfl
    rw [e2, e1, fdiv256]
    rfl
  rw [hF]
  refine ⟨hBuild4DF8 n (bldS false false n fl d) (pad : Int) p q r fl d H bare, Runs.ofT0 (tBuildOk [10, p, q, r] [192, 168, 0, 1] H (bldS false false n fl d)) (F := 100) (n := 4) (pr := [(52, .bool false), (56, .bool false), (60, .bool false), (135, .bool true)]) ?_, _, congrArg some (congrArg (fun z => ABlk.cells z 1 Md.own _) kF)⟩
  refine (nfBuild4DF n (bldS false false n fl d) (pad : Int) p q r fl d H bare _).trans ?_
  try rw [kC]
  try rw [kS]
  try rw [kE]
  refine (if_pos (wS)).trans ?_
  iterate 3 (refine (if_pos (decide_eq_false (by omega))).trans ?_)
  iterate 3 (refine (if_pos (by first | exact True.intro | rfl | omega | (simp [udpH, tcpH, bldE, hHl]; done) | (simp [udpH, tcpH, bldE, hHl]; omega))).trans ?_)
  refine (if_pos (cdec_true.2 (sayBytes wS hA rfl))).trans ?_
  refine (if_pos (cdec_true.2 (sayBytes wD hB rfl))).trans ?_
  iterate 3 (refine (if_pos (by first | exact True.intro | rfl | omega | (simp [udpH, tcpH, bldE, hHl]; done) | (simp [udpH, tcpH, bldE, hHl]; omega))).trans ?_)
  refine (if_pos (cdec_true.2 (sayRSum (l := (pseudoL (prt false) ((hdn false + d.length : Nat) : Int) (kSrc false n) (kDst false)) ++ (tcpH (kport n) 80 fl 0 ++ d)) (bOk_row rfl (bysApp kP (bysTake2 kS (by simp [udpH, tcpH] <;> omega))) (by rw [List.length_append, ← bys_length (pseudoL (prt false) ((hdn false + d.length : Nat) : Int) (kSrc false n) (kDst false)), ← kP]; simp [udpH, tcpH] <;> omega)) (by simp <;> omega) rfl))).trans ?_
  refine (if_pos (by rw [f5]; simp; exact hc)).trans ?_
  iterate 2 (refine (if_pos (by first | exact True.intro | rfl | omega | (simp [udpH, tcpH, bldE, hHl]; done) | (simp [udpH, tcpH, bldE, hHl]; omega))).trans ?_)
  refine (if_pos (cdec_true.2 (say4Mk wS wD (by decide) ⟨by rw [kSrc_B]; rfl, by rw [kDst_B]; rfl, by rw [hdnE]; omega, by rw [hdnE]; omega⟩ hH rfl))).trans ?_
  iterate 11 (refine (if_pos (by first | exact True.intro | rfl | omega | (simp [udpH, tcpH, bldE, hHl]; done) | (simp [udpH, tcpH, bldE, hHl]; omega))).trans ?_)
  rfl

theorem runBuild4DT (n : Int) (pad : Nat) (p q r fl : UInt8) (d : List UInt8) (bare : Bool) (hd : d.length ≤ 2000) (hpad : pad ≤ 100) (hp : kb1 n = p.toNat) (hq : kb2 n = q.toNat) (hr : kb3 n = r.toNat) (H : List UInt8) (hH : (bldH false false n ((hdn false + d.length : Nat) : Int)) = H) (hc : 65535 - (bldS false false n fl d) = 0) :
    ∃ h1, Runs Try.prog 8 [.agg (keyV false false n), .int .u8 (fl.toNat : Int), slB 0 d, .bool true, .bool bare, .int .i64 (pad : Int)] [farB d] (.sl (some (18, 0)) (18 + H.length + (20 + d.length) + (pad : Int).toNat) 0 false) h1 ∧
      ∃ par, h1[18]? = some (.cells (bys (bldF false false true bare n fl d pad)) 1 .own par) := by
  have wS : adrWf (kSrc false n) = true := by rw [kSrc_B]; exact adrB_wf rfl
  have wD : adrWf (kDst false) = true := by rw [kDst_B]; exact adrB_wf rfl
  have hA : adrBytes (kSrc false n) = [10, p, q, r] := by
    rw [kSrc_B, adrB_F]; unfold kSrcB; rw [hp, hq, hr]; simp
  have hB : adrBytes (kDst false) = [192, 168, 0, 1] := by rw [kDst_B, adrB_F]; rfl
  have hHl : H.length = 20 := by rw [← hH, bldH_length _ _ _ _ (by unfold hdn; split <;> omega)]; rfl
  have hsr := bldS_range false false n fl d
  have hdnE : hdn false = 20 := rfl
  have f5 : IntKind.i64.wrap (65535 - (bldS false false n fl d)) = 65535 - (bldS false false n fl d) := wrapI64 (by omega)
  have kS : (cT n fl d) = bys (tcpH (kport n) 80 fl 0 ++ d) := cT_eq n fl d
  have kE : cE false true = bys (bldE false true) := cE_eq _ _
  have kC : (putCells (putCells (cT n fl d) 16 [b8 (IntKind.u8.wrap ((IntKind.i64.wrap (65535 - (bldS false false n fl d))).fdiv 256))]) 17 [b8 (IntKind.u8.wrap (IntKind.i64.wrap (65535 - (bldS false false n fl d))))]) = bys (tcpH (kport n) 80 fl (65535 - (bldS false false n fl d)) ++ d) := by
    rw [f5, put2 (v := 65535 - (bldS false false n fl d)) kS (by simp [udpH, tcpH] <;> omega) rfl rfl, tcpH_put (by omega)]
  have kF : List.take ((18 + H.length + (20 + d.length)) * 1) (List.take ((18 + H.length) * 1) (cE false true ++ List.take (H.length * 1) (bys H)) ++ List.take ((20 + d.length) * 1) (putCells (putCells (cT n fl d) 16 [b8 (IntKind.u8.wrap ((IntKind.i64.wrap (65535 - (bldS false false n fl d))).fdiv 256))]) 17 [b8 (IntKind.u8.wrap (IntKind.i64.wrap (65535 - (bldS false false n fl d))))])) ++ zrep (pad : Int).toNat [b8 0] = bys (bldE false true ++ H ++ (tcpH (kport n) 80 fl (65535 - (bldS false false n fl d)) ++ d) ++ List.replicate pad 0) :=
    bysApp (bysTake2 (bysApp (bysTake2 (bysApp kE (bys_full _)) (by simp [bldE] <;> omega)) (bysTake2 kC (by simp [udpH, tcpH] <;> omega))) (by simp [bldE, udpH, tcpH] <;> omega)) (by rw [show (pad : Int).toNat = pad by omega]; exact zrep_byte pad)
  have hbc : bldC false false bare n fl d = (65535 - (bldS false false n fl d)) := by
    unfold bldC
    rw [if_neg (by simp), if_neg (by simp)]
  have hG : bldG false false bare n fl d = (tcpH (kport n) 80 fl (65535 - (bldS false false n fl d)) ++ d) := by
    unfold bldG; rw [hbc]; rfl
  have hF : bldF false false true bare n fl d pad = bldE false true ++ H ++ (tcpH (kport n) 80 fl (65535 - (bldS false false n fl d)) ++ d) ++ List.replicate pad 0 := by
    unfold bldF; rw [hG, hH]
  have kP : [b8 10, b8 (p.toNat : Int), b8 (q.toNat : Int), b8 (r.toNat : Int), b8 192, b8 168, b8 0, b8 1, b8 0, b8 (intV (some (b8 6))), b8 (IntKind.u8.wrap (((((20 + d.length) : Nat) : Int)).fdiv 256)), b8 (IntKind.u8.wrap (((20 + d.length) : Nat) : Int))] = bys (pseudoL (prt false) ((hdn false + d.length : Nat) : Int) (kSrc false n) (kDst false)) := by
    unfold pseudoL
    rw [hA, hB]
    simp only [b8, wrapU8_byte, fdiv256]
    rw [if_neg (by rw [kSrc_B]; simp [adrV6]), bigR8_2]
    have e1 : ((20 + d.length : Nat) : Int).fdiv 1 = ((20 + d.length : Nat) : Int) := by rw [Int.fdiv_eq_ediv_of_nonneg _ (by omega), Int.ediv_one]
    have e2 : ((hdn false + d.length : Nat) : Int) = ((20 + d.length : Nat) : Int) := rfl
    rw [e2, e1, fdiv256]
    rfl
  rw [hF]
  refine ⟨hBuild4DT8 n (bldS false false n fl d) (pad : Int) p q r fl d H bare, Runs.ofT0 (tBuildOk [10, p, q, r] [192, 168, 0, 1] H (bldS false false n fl d)) (F := 100) (n := 4) (pr := [(52, .bool false), (56, .bool false), (60, .bool false), (135, .bool true)]) ?_, _, congrArg some (congrArg (fun z => ABlk.cells z 1 Md.own _) kF)⟩
  refine (nfBuild4DT n (bldS false false n fl d) (pad : Int) p q r fl d H bare _).trans ?_
  try rw [kC]
  try rw [kS]
  try rw [kE]
  refine (if_pos (wS)).trans ?_
  iterate 3 (refine (if_pos (decide_eq_false (by omega))).trans ?_)
  iterate 3 (refine (if_pos (by first | exact True.intro | rfl | omega | (simp [udpH, tcpH, bldE, hHl]; done) | (simp [udpH, tcpH, bldE, hHl]; omega))).trans ?_)
  refine (if_pos (cdec_true.2 (sayBytes wS hA rfl))).trans ?_
  refine (if_pos (cdec_true.2 (sayBytes wD hB rfl))).trans ?_
  iterate 3 (refine (if_pos (by first | exact True.intro | rfl | omega | (simp [udpH, tcpH, bldE, hHl]; done) | (simp [udpH, tcpH, bldE, hHl]; omega))).trans ?_)
  refine (if_pos (cdec_true.2 (sayRSum (l := (pseudoL (prt false) ((hdn false + d.length : Nat) : Int) (kSrc false n) (kDst false)) ++ (tcpH (kport n) 80 fl 0 ++ d)) (bOk_row rfl (bysApp kP (bysTake2 kS (by simp [udpH, tcpH] <;> omega))) (by rw [List.length_append, ← bys_length (pseudoL (prt false) ((hdn false + d.length : Nat) : Int) (kSrc false n) (kDst false)), ← kP]; simp [udpH, tcpH] <;> omega)) (by simp <;> omega) rfl))).trans ?_
  refine (if_pos (by rw [f5]; simp; exact hc)).trans ?_
  iterate 2 (refine (if_pos (by first | exact True.intro | rfl | omega | (simp [udpH, tcpH, bldE, hHl]; done) | (simp [udpH, tcpH, bldE, hHl]; omega))).trans ?_)
  refine (if_pos (cdec_true.2 (say4Mk wS wD (by decide) ⟨by rw [kSrc_B]; rfl, by rw [kDst_B]; rfl, by rw [hdnE]; omega, by rw [hdnE]; omega⟩ hH rfl))).trans ?_
  iterate 11 (refine (if_pos (by first | exact True.intro | rfl | omega | (simp [udpH, tcpH, bldE, hHl]; done) | (simp [udpH, tcpH, bldE, hHl]; omega))).trans ?_)
  rfl

theorem runBuild4UF (n : Int) (pad : Nat) (p q r fl : UInt8) (d : List UInt8) (hd : d.length ≤ 2000) (hpad : pad ≤ 100) (hp : kb1 n = p.toNat) (hq : kb2 n = q.toNat) (hr : kb3 n = r.toNat) (H : List UInt8) (hH : (bldH false true n ((hdn true + d.length : Nat) : Int)) = H) (hc : 65535 - (bldS false true n fl d) ≠ 0) :
    ∃ h1, Runs Try.prog 8 [.agg (keyV false true n), .int .u8 (fl.toNat : Int), slB 0 d, .bool false, .bool false, .int .i64 (pad : Int)] [farB d] (.sl (some (16, 0)) (14 + H.length + (8 + d.length) + (pad : Int).toNat) 0 false) h1 ∧
      ∃ par, h1[16]? = some (.cells (bys (bldF false true false false n fl d pad)) 1 .own par) := by
  have wS : adrWf (kSrc false n) = true := by rw [kSrc_B]; exact adrB_wf rfl
  have wD : adrWf (kDst false) = true := by rw [kDst_B]; exact adrB_wf rfl
  have hA : adrBytes (kSrc false n) = [10, p, q, r] := by
    rw [kSrc_B, adrB_F]; unfold kSrcB; rw [hp, hq, hr]; simp
  have hB : adrBytes (kDst false) = [192, 168, 0, 1] := by rw [kDst_B, adrB_F]; rfl
  have hHl : H.length = 20 := by rw [← hH, bldH_length _ _ _ _ (by unfold hdn; split <;> omega)]; rfl
  have hsr := bldS_range false true n fl d
  have hdnE : hdn true = 8 := rfl
  have f5 : IntKind.i64.wrap (65535 - (bldS false true n fl d)) = 65535 - (bldS false true n fl d) := wrapI64 (by omega)
  have kS : (cU n d) = bys (udpH (kport n) 80 (8 + d.length) 0 ++ d) := cU_eq n d hd
  have kE : cE false false = bys (bldE false false) := cE_eq _ _
  have kC : (putCells (putCells (cU n d) 6 [b8 (IntKind.u8.wrap ((IntKind.i64.wrap (65535 - (bldS false true n fl d))).fdiv 256))]) 7 [b8 (IntKind.u8.wrap (IntKind.i64.wrap (65535 - (bldS false true n fl d))))]) = bys (udpH (kport n) 80 (8 + d.length) (65535 - (bldS false true n fl d)) ++ d) := by
    rw [f5, put2 (v := 65535 - (bldS false true n fl d)) kS (by simp [udpH, tcpH] <;> omega) rfl rfl, udpH_put (by omega)]
  have kF : List.take ((14 + H.length + (8 + d.length)) * 1) (List.take ((14 + H.length) * 1) (cE false false ++ List.take (H.length * 1) (bys H)) ++ List.take ((8 + d.length) * 1) (putCells (putCells (cU n d) 6 [b8 (IntKind.u8.wrap ((IntKind.i64.wrap (65535 - (bldS false true n fl d))).fdiv 256))]) 7 [b8 (IntKind.u8.wrap (IntKind.i64.wrap (65535 - (bldS false true n fl d))))])) ++ zrep (pad : Int).toNat [b8 0] = bys (bldE false false ++ H ++ (udpH (kport n) 80 (8 + d.length) (65535 - (bldS false true n fl d)) ++ d) ++ List.replicate pad 0) :=
    bysApp (bysTake2 (bysApp (bysTake2 (bysApp kE (bys_full _)) (by simp [bldE] <;> omega)) (bysTake2 kC (by simp [udpH, tcpH] <;> omega))) (by simp [bldE, udpH, tcpH] <;> omega)) (by rw [show (pad : Int).toNat = pad by omega]; exact zrep_byte pad)
  have hbc : bldC false true false n fl d = (65535 - (bldS false true n fl d)) := by
    unfold bldC
    rw [if_neg (by simp), if_neg (by simp; exact hc)]
  have hG : bldG false true false n fl d = (udpH (kport n) 80 (8 + d.length) (65535 - (bldS false true n fl d)) ++ d) := by
    unfold bldG; rw [hbc]; rfl
  have hF : bldF false true false false n fl d pad = bldE false false ++ H ++ (udpH (kport n) 80 (8 + d.length) (65535 - (bldS false true n fl d)) ++ d) ++ List.replicate pad 0 := by
    unfold bldF; rw [hG, hH]
  have kP : [b8 10, b8 (p.toNat : Int), b8 (q.toNat : Int), b8 (r.toNat : Int), b8 192, b8 168, b8 0, b8 1, b8 0, b8 (intV (some (b8 17))), b8 (IntKind.u8.wrap (((((8 + d.length) : Nat) : Int)).fdiv 256)), b8 (IntKind.u8.wrap (((8 + d.length) : Nat) : Int))] = bys (pseudoL (prt true) ((hdn true + d.length : Nat) : Int) (kSrc false n) (kDst false)) := by
    unfold pseudoL
    rw [hA, hB]
    simp only [b8, wrapU8_byte, fdiv256]
    rw [if_neg (by rw [kSrc_B]; simp [adrV6]), bigR8_2]
    have e1 : ((8 + d.length : Nat) : Int).fdiv 1 = ((8 + d.length : Nat) : Int) := by rw [Int.fdiv_eq_ediv_of_nonneg _ (by omega), Int.ediv_one]
    have e2 : ((hdn true + d.length : Nat) : Int) = ((8 + d.length : Nat) : Int) := rfl
    rw [e2, e1, fdiv256]
    rfl
  rw [hF]
  refine ⟨hBuild4UF8 n (bldS false true n fl d) (pad : Int) p q r fl d H, Runs.ofT0 (tBuildOk [10, p, q, r] [192, 168, 0, 1] H (bldS false true n fl d)) (F := 100) (n := 4) (pr := [(52, .bool false), (56, .bool false), (60, .bool false), (135, .bool false)]) ?_, _, congrArg some (congrArg (fun z => ABlk.cells z 1 Md.own _) kF)⟩
  refine (nfBuild4UF n (bldS false true n fl d) (pad : Int) p q r fl d H _).trans ?_
  try rw [kC]
  try rw [kS]
  try rw [kE]
  refine (if_pos (wS)).trans ?_
  iterate 3 (refine (if_pos (decide_eq_false (by omega))).trans ?_)
  iterate 3 (refine (if_pos (by first | exact True.intro | rfl | omega | (simp [udpH, tcpH, bldE, hHl]; done) | (simp [udpH, tcpH, bldE, hHl]; omega))).trans ?_)
  refine (if_pos (cdec_true.2 (sayBytes wS hA rfl))).trans ?_
  refine (if_pos (cdec_true.2 (sayBytes wD hB rfl))).trans ?_
  iterate 3 (refine (if_pos (by first | exact True.intro | rfl | omega | (simp [udpH, tcpH, bldE, hHl]; done) | (simp [udpH, tcpH, bldE, hHl]; omega))).trans ?_)
  refine (if_pos (cdec_true.2 (sayRSum (l := (pseudoL (prt true) ((hdn true + d.length : Nat) : Int) (kSrc false n) (kDst false)) ++ (udpH (kport n) 80 (8 + d.length) 0 ++ d)) (bOk_row rfl (bysApp kP (bysTake2 kS (by simp [udpH, tcpH] <;> omega))) (by rw [List.length_append, ← bys_length (pseudoL (prt true) ((hdn true + d.length : Nat) : Int) (kSrc false n) (kDst false)), ← kP]; simp [udpH, tcpH] <;> omega)) (by simp <;> omega) rfl))).trans ?_
  refine (if_pos (by rw [f5]; simp; exact hc)).trans ?_
  iterate 2 (refine (if_pos (by first | exact True.intro | rfl | omega | (simp [udpH, tcpH, bldE, hHl]; done) | (simp [udpH, tcpH, bldE, hHl]; omega))).trans ?_)
  refine (if_pos (cdec_true.2 (say4Mk wS wD (by decide) ⟨by rw [kSrc_B]; rfl, by rw [kDst_B]; rfl, by rw [hdnE]; omega, by rw [hdnE]; omega⟩ hH rfl))).trans ?_
  iterate 11 (refine (if_pos (by first | exact True.intro | rfl | omega | (simp [udpH, tcpH, bldE, hHl]; done) | (simp [udpH, tcpH, bldE, hHl]; omega))).trans ?_)
  rfl

theorem runBuild4UT (n : Int) (pad : Nat) (p q r fl : UInt8) (d : List UInt8) (hd : d.length ≤ 2000) (hpad : pad ≤ 100) (hp : kb1 n = p.toNat) (hq : kb2 n = q.toNat) (hr : kb3 n = r.toNat) (H : List UInt8) (hH : (bldH false true n ((hdn true + d.length : Nat) : Int)) = H) (hc : 65535 - (bldS false true n fl d) ≠ 0) :
    ∃ h1, Runs Try.prog 8 [.agg (keyV false true n), .int .u8 (fl.toNat : Int), slB 0 d, .bool true, .bool false, .int .i64 (pad : Int)] [farB d] (.sl (some (18, 0)) (18 + H.length + (8 + d.length) + (pad : Int).toNat) 0 false) h1 ∧
      ∃ par, h1[18]? = some (.cells (bys (bldF false true true false n fl d pad)) 1 .own par) := by
  have wS : adrWf (kSrc false n) = true := by rw [kSrc_B]; exact adrB_wf rfl
  have wD : adrWf (kDst false) = true := by rw [kDst_B]; exact adrB_wf rfl
  have hA : adrBytes (kSrc false n) = [10, p, q, r] := by
    rw [kSrc_B, adrB_F]; unfold kSrcB; rw [hp, hq, hr]; simp
  have hB : adrBytes (kDst false) = [192, 168, 0, 1] := by rw [kDst_B, adrB_F]; rfl
  have hHl : H.length = 20 := by rw [← hH, bldH_length _ _ _ _ (by unfold hdn; split <;> omega)]; rfl
  have hsr := bldS_range false true n fl d
  have hdnE : hdn true = 8 := rfl
  have f5 : IntKind.i64.wrap (65535 - (bldS false true n fl d)) = 65535 - (bldS false true n fl d) := wrapI64 (by omega)
  have kS : (cU n d) = bys (udpH (kport n) 80 (8 + d.length) 0 ++ d) := cU_eq n d hd
  have kE : cE false true = bys (bldE false true) := cE_eq _ _
  have kC : (putCells (putCells (cU n d) 6 [b8 (IntKind.u8.wrap ((IntKind.i64.wrap (65535 - (bldS false true n fl d))).fdiv 256))]) 7 [b8 (IntKind.u8.wrap (IntKind.i64.wrap (65535 - (bldS false true n fl d))))]) = bys (udpH (kport n) 80 (8 + d.length) (65535 - (bldS false true n fl d)) ++ d) := by
    rw [f5, put2 (v := 65535 - (bldS false true n fl d)) kS (by simp [udpH, tcpH] <;> omega) rfl rfl, udpH_put (by omega)]
  have kF : List.take ((18 + H.length + (8 + d.length)) * 1) (List.take ((18 + H.length) * 1) (cE false true ++ List.take (H.length * 1) (bys H)) ++ List.take ((8 + d.length) * 1) (putCells (putCells (cU n d) 6 [b8 (IntKind.u8.wrap ((IntKind.i64.wrap (65535 - (bldS false true n fl d))).fdiv 256))]) 7 [b8 (IntKind.u8.wrap (IntKind.i64.wrap (65535 - (bldS false true n fl d))))])) ++ zrep (pad : Int).toNat [b8 0] = bys (bldE false true ++ H ++ (udpH (kport n) 80 (8 + d.length) (65535 - (bldS false true n fl d)) ++ d) ++ List.replicate pad 0) :=
    bysApp (bysTake2 (bysApp (bysTake2 (bysApp kE (bys_full _)) (by simp [bldE] <;> omega)) (bysTake2 kC (by simp [udpH, tcpH] <;> omega))) (by simp [bldE, udpH, tcpH] <;> omega)) (by rw [show (pad : Int).toNat = pad by omega]; exact zrep_byte pad)
  have hbc : bldC false true false n fl d = (65535 - (bldS false true n fl d)) := by
    unfold bldC
    rw [if_neg (by simp), if_neg (by simp; exact hc)]
  have hG : bldG false true false n fl d = (udpH (kport n) 80 (8 + d.length) (65535 - (bldS false true n fl d)) ++ d) := by
    unfold bldG; rw [hbc]; rfl
  have hF : bldF false true true false n fl d pad = bldE false true ++ H ++ (udpH (kport n) 80 (8 + d.length) (65535 - (bldS false true n fl d)) ++ d) ++ List.replicate pad 0 := by
    unfold bldF; rw [hG, hH]
  have kP : [b8 10, b8 (p.toNat : Int), b8 (q.toNat : Int), b8 (r.toNat : Int), b8 192, b8 168, b8 0, b8 1, b8 0, b8 (intV (some (b8 17))), b8 (IntKind.u8.wrap (((((8 + d.length) : Nat) : Int)).fdiv 256)), b8 (IntKind.u8.wrap (((8 + d.length) : Nat) : Int))] = bys (pseudoL (prt true) ((hdn true + d.length : Nat) : Int) (kSrc false n) (kDst false)) := by
    unfold pseudoL
    rw [hA, hB]
    simp only [b8, wrapU8_byte, fdiv256]
    rw [if_neg (by rw [kSrc_B]; simp [adrV6]), bigR8_2]
    have e1 : ((8 + d.length : Nat) : Int).fdiv 1 = ((8 + d.length : Nat) : Int) := by rw [Int.fdiv_eq_ediv_of_nonneg _ (by omega), Int.ediv_one]
    have e2 : ((hdn true + d.length : Nat) : Int) = ((8 + d.length : Nat) : Int) := rfl
    rw [e2, e1, fdiv256]
    rfl
  rw [hF]
  refine ⟨hBuild4UT8 n (bldS false true n fl d) (pad : Int) p q r fl d H, Runs.ofT0 (tBuildOk [10, p, q, r] [192, 168, 0, 1] H (bldS false true n fl d)) (F := 100) (n := 4) (pr := [(52, .bool false), (56, .bool false), (60, .bool false), (135, .bool false)]) ?_, _, congrArg some (congrArg (fun z => ABlk.cells z 1 Md.own _) kF)⟩
  refine (nfBuild4UT n (bldS false true n fl d) (pad : Int) p q r fl d H _).trans ?_
  try rw [kC]
  try rw [kS]
  try rw [kE]
  refine (if_pos (wS)).trans ?_
  iterate 3 (refine (if_pos (decide_eq_false (by omega))).trans ?_)
  iterate 3 (refine (if_pos (by first | exact True.intro | rfl | omega | (simp [udpH, tcpH, bldE, hHl]; done) | (simp [udpH, tcpH, bldE, hHl]; omega))).trans ?_)
  refine (if_pos (cdec_true.2 (sayBytes wS hA rfl))).trans ?_
  refine (if_pos (cdec_true.2 (sayBytes wD hB rfl))).trans ?_
  iterate 3 (refine (if_pos (by first | exact True.intro | rfl | omega | (simp [udpH, tcpH, bldE, hHl]; done) | (simp [udpH, tcpH, bldE, hHl]; omega))).trans ?_)
  refine (if_pos (cdec_true.2 (sayRSum (l := (pseudoL (prt true) ((hdn true + d.length : Nat) : Int) (kSrc false n) (kDst false)) ++ (udpH (kport n) 80 (8 + d.length) 0 ++ d)) (bOk_row rfl (bysApp kP (bysTake2 kS (by simp [udpH, tcpH] <;> omega))) (by rw [List.length_append, ← bys_length (pseudoL (prt true) ((hdn true + d.length : Nat) : Int) (kSrc false n) (kDst false)), ← kP]; simp [udpH, tcpH] <;> omega)) (by simp <;> omega) rfl))).trans ?_
  refine (if_pos (by rw [f5]; simp; exact hc)).trans ?_
  iterate 2 (refine (if_pos (by first | exact True.intro | rfl | omega | (simp [udpH, tcpH, bldE, hHl]; done) | (simp [udpH, tcpH, bldE, hHl]; omega))).trans ?_)
  refine (if_pos (cdec_true.2 (say4Mk wS wD (by decide) ⟨by rw [kSrc_B]; rfl, by rw [kDst_B]; rfl, by rw [hdnE]; omega, by rw [hdnE]; omega⟩ hH rfl))).trans ?_
  iterate 11 (refine (if_pos (by first | exact True.intro | rfl | omega | (simp [udpH, tcpH, bldE, hHl]; done) | (simp [udpH, tcpH, bldE, hHl]; omega))).trans ?_)
  rfl

theorem runBuild4ZF (n : Int) (pad : Nat) (p q r fl : UInt8) (d : List UInt8) (hd : d.length ≤ 2000) (hpad : pad ≤ 100) (hp : kb1 n = p.toNat) (hq : kb2 n = q.toNat) (hr : kb3 n = r.toNat) (H : List UInt8) (hH : (bldH false true n ((hdn true + d.length : Nat) : Int)) = H) (hc : 65535 - (bldS false true n fl d) = 0) :
    ∃ h1, Runs Try.prog 8 [.agg (keyV false true n), .int .u8 (fl.toNat : Int), slB 0 d, .bool false, .bool false, .int .i64 (pad : Int)] [farB d] (.sl (some (16, 0)) (14 + H.length + (8 + d.length) + (pad : Int).toNat) 0 false) h1 ∧
      ∃ par, h1[16]? = some (.cells (bys (bldF false true false false n fl d pad)) 1 .own par) := by
  have wS : adrWf (kSrc false n) = true := by rw [kSrc_B]; exact adrB_wf rfl
  have wD : adrWf (kDst false) = true := by rw [kDst_B]; exact adrB_wf rfl
  have hA : adrBytes (kSrc false n) = [10, p, q, r] := by
    rw [kSrc_B, adrB_F]; unfold kSrcB; rw [hp, hq, hr]; simp
  have hB : adrBytes (kDst false) = [192, 168, 0, 1] := by rw [kDst_B, adrB_F]; rfl
  have hHl : H.length = 20 := by rw [← hH, bldH_length _ _ _ _ (by unfold hdn; split <;> omega)]; rfl
  have hsr := bldS_range false true n fl d
  have hdnE : hdn true = 8 := rfl
  have f5 : IntKind.i64.wrap (65535 - (bldS false true n fl d)) = 65535 - (bldS false true n fl d) := wrapI64 (by omega)
  have kS : (cU n d) = bys (udpH (kport n) 80 (8 + d.length) 0 ++ d) := cU_eq n d hd
  have kE : cE false false = bys (bldE false false) := cE_eq _ _
  have kC : (putCells (putCells (cU n d) 6 [b8 255]) 7 [b8 255]) = bys (udpH (kport n) 80 (8 + d.length) 65535 ++ d) := by
    rw [put2 (v := 65535) kS (by simp [udpH, tcpH] <;> omega) (by decide) (by decide), udpH_put (by omega)]
  have kF : List.take ((14 + H.length + (8 + d.length)) * 1) (List.take ((14 + H.length) * 1) (cE false false ++ List.take (H.length * 1) (bys H)) ++ List.take ((8 + d.length) * 1) (putCells (putCells (cU n d) 6 [b8 255]) 7 [b8 255])) ++ zrep (pad : Int).toNat [b8 0] = bys (bldE false false ++ H ++ (udpH (kport n) 80 (8 + d.length) 65535 ++ d) ++ List.replicate pad 0) :=
    bysApp (bysTake2 (bysApp (bysTake2 (bysApp kE (bys_full _)) (by simp [bldE] <;> omega)) (bysTake2 kC (by simp [udpH, tcpH] <;> omega))) (by simp [bldE, udpH, tcpH] <;> omega)) (by rw [show (pad : Int).toNat = pad by omega]; exact zrep_byte pad)
  have hbc : bldC false true false n fl d = 65535 := by
    unfold bldC
    rw [if_neg (by simp), if_pos ⟨rfl, hc⟩]
  have hG : bldG false true false n fl d = (udpH (kport n) 80 (8 + d.length) 65535 ++ d) := by
    unfold bldG; rw [hbc]; rfl
  have hF : bldF false true false false n fl d pad = bldE false false ++ H ++ (udpH (kport n) 80 (8 + d.length) 65535 ++ d) ++ List.replicate pad 0 := by
    unfold bldF; rw [hG, hH]
  have kP : [b8 10, b8 (p.toNat : Int), b8 (q.toNat : Int), b8 (r.toNat : Int), b8 192, b8 168, b8 0, b8 1, b8 0, b8 (intV (some (b8 17))), b8 (IntKind.u8.wrap (((((8 + d.length) : Nat) : Int)).fdiv 256)), b8 (IntKind.u8.wrap (((8 + d.length) : Nat) : Int))] = bys (pseudoL (prt true) ((hdn true + d.length : Nat) : Int) (kSrc false n) (kDst false)) := by
    unfold pseudoL
    rw [hA, hB]
    simp only [b8, wrapU8_byte, fdiv256]
    rw [if_neg (by rw [kSrc_B]; simp [adrV6]), bigR8_2]
    have e1 : ((8 + d.length : Nat) : Int).fdiv 1 = ((8 + d.length : Nat) : Int) := by rw [Int.fdiv_eq_ediv_of_nonneg _ (by omega), Int.ediv_one]
    have e2 : ((hdn true + d.length : Nat) : Int) = ((8 + d.length : Nat) : Int) := rfl
    rw [e2, e1, fdiv256]
    rfl
  rw [hF]
  refine ⟨hBuild4ZF8 n (bldS false true n fl d) (pad : Int) p q r fl d H, Runs.ofT0 (tBuildOk [10, p, q, r] [192, 168, 0, 1] H (bldS false true n fl d)) (F := 100) (n := 4) (pr := [(52, .bool false), (56, .bool false), (60, .bool false), (135, .bool true)]) ?_, _, congrArg some (congrArg (fun z => ABlk.cells z 1 Md.own _) kF)⟩
  refine (nfBuild4ZF n (bldS false true n fl d) (pad : Int) p q r fl d H _).trans ?_
  try rw [kC]
  try rw [kS]
  try rw [kE]
  refine (if_pos (wS)).trans ?_
  iterate 3 (refine (if_pos (decide_eq_false (by omega))).trans ?_)
  iterate 3 (refine (if_pos (by first | exact True.intro | rfl | omega | (simp [udpH, tcpH, bldE, hHl]; done) | (simp [udpH, tcpH, bldE, hHl]; omega))).trans ?_)
  refine (if_pos (cdec_true.2 (sayBytes wS hA rfl))).trans ?_
  refine (if_pos (cdec_true.2 (sayBytes wD hB rfl))).trans ?_
  iterate 3 (refine (if_pos (by first | exact True.intro | rfl | omega | (simp [udpH, tcpH, bldE, hHl]; done) | (simp [udpH, tcpH, bldE, hHl]; omega))).trans ?_)
  refine (if_pos (cdec_true.2 (sayRSum (l := (pseudoL (prt true) ((hdn true + d.length : Nat) : Int) (kSrc false n) (kDst false)) ++ (udpH (kport n) 80 (8 + d.length) 0 ++ d)) (bOk_row rfl (bysApp kP (bysTake2 kS (by simp [udpH, tcpH] <;> omega))) (by rw [List.length_append, ← bys_length (pseudoL (prt true) ((hdn true + d.length : Nat) : Int) (kSrc false n) (kDst false)), ← kP]; simp [udpH, tcpH] <;> omega)) (by simp <;> omega) rfl))).trans ?_
  refine (if_pos (by rw [f5]; simp; exact hc)).trans ?_
  iterate 2 (refine (if_pos (by first | exact True.intro | rfl | omega | (simp [udpH, tcpH, bldE, hHl]; done) | (simp [udpH, tcpH, bldE, hHl]; omega))).trans ?_)
  refine (if_pos (cdec_true.2 (say4Mk wS wD (by decide) ⟨by rw [kSrc_B]; rfl, by rw [kDst_B]; rfl, by rw [hdnE]; omega, by rw [hdnE]; omega⟩ hH rfl))).trans ?_
  iterate 11 (refine (if_pos (by first | exact True.intro | rfl | omega | (simp [udpH, tcpH, bldE, hHl]; done) | (simp [udpH, tcpH, bldE, hHl]; omega))).trans ?_)
  rfl

theorem runBuild4ZT (n : Int) (pad : Nat) (p q r fl : UInt8) (d : List UInt8) (hd : d.length ≤ 2000) (hpad : pad ≤ 100) (hp : kb1 n = p.toNat) (hq : kb2 n = q.toNat) (hr : kb3 n = r.toNat) (H : List UInt8) (hH : (bldH false true n ((hdn true + d.length : Nat) : Int)) = H) (hc : 65535 - (bldS false true n fl d) = 0) :
    ∃ h1, Runs Try.prog 8 [.agg (keyV false true n), .int .u8 (fl.toNat : Int), slB 0 d, .bool true, .bool false, .int .i64 (pad : Int)] [farB d] (.sl (some (18, 0)) (18 + H.length + (8 + d.length) + (pad : Int).toNat) 0 false) h1 ∧
      ∃ par, h1[18]? = some (.cells (bys (bldF false true true false n fl d pad)) 1 .own par) := by
  have wS : adrWf (kSrc false n) = true := by rw [kSrc_B]; exact adrB_wf rfl
  have wD : adrWf (kDst false) = true := by rw [kDst_B]; exact adrB_wf rfl
  have hA : adrBytes (kSrc false n) = [10, p, q, r] := by
    rw [kSrc_B, adrB_F]; unfold kSrcB; rw [hp, hq, hr]; simp
  have hB : adrBytes (kDst false) = [192, 168, 0, 1] := by rw [kDst_B, adrB_F]; rfl
  have hHl : H.length = 20 := by rw [← hH, bldH_length _ _ _ _ (by unfold hdn; split <;> omega)]; rfl
  have hsr := bldS_range false true n fl d
  have hdnE : hdn true = 8 := rfl
  have f5 : IntKind.i64.wrap (65535 - (bldS false true n fl d)) = 65535 - (bldS false true n fl d) := wrapI64 (by omega)
  have kS : (cU n d) = bys (udpH (kport n) 80 (8 + d.length) 0 ++ d) := cU_eq n d hd
  have kE : cE false true = bys (bldE false true) := cE_eq _ _
  have kC : (putCells (putCells (cU n d) 6 [b8 255]) 7 [b8 255]) = bys (udpH (kport n) 80 (8 + d.length) 65535 ++ d) := by
    rw [put2 (v := 65535) kS (by simp [udpH, tcpH] <;> omega) (by decide) (by decide), udpH_put (by omega)]
  have kF : List.take ((18 + H.length + (8 + d.length)) * 1) (List.take ((18 + H.length) * 1) (cE false true ++ List.take (H.length * 1) (bys H)) ++ List.take ((8 + d.length) * 1) (putCells (putCells (cU n d) 6 [b8 255]) 7 [b8 255])) ++ zrep (pad : Int).toNat [b8 0] = bys (bldE false true ++ H ++ (udpH (kport n) 80 (8 + d.length) 65535 ++ d) ++ List.replicate pad 0) :=
    bysApp (bysTake2 (bysApp (bysTake2 (bysApp kE (bys_full _)) (by simp [bldE] <;> omega)) (bysTake2 kC (by simp [udpH, tcpH] <;> omega))) (by simp [bldE, udpH, tcpH] <;> omega)) (by rw [show (pad : Int).toNat = pad by omega]; exact zrep_byte pad)
  have hbc : bldC false true false n fl d = 65535 := by
    unfold bldC
    rw [if_neg (by simp), if_pos ⟨rfl, hc⟩]
  have hG : bldG false true false n fl d = (udpH (kport n) 80 (8 + d.length) 65535 ++ d) := by
    unfold bldG; rw [hbc]; rfl
  have hF : bldF false true true false n fl d pad = bldE false true ++ H ++ (udpH (kport n) 80 (8 + d.length) 65535 ++ d) ++ List.replicate pad 0 := by
    unfold bldF; rw [hG, hH]
  have kP : [b8 10, b8 (p.toNat : Int), b8 (q.toNat : Int), b8 (r.toNat : Int), b8 192, b8 168, b8 0, b8 1, b8 0, b8 (intV (some (b8 17))), b8 (IntKind.u8.wrap (((((8 + d.length) : Nat) : Int)).fdiv 256)), b8 (IntKind.u8.wrap (((8 + d.length) : Nat) : Int))] = bys (pseudoL (prt true) ((hdn true + d.length : Nat) : Int) (kSrc false n) (kDst false)) := by
    unfold pseudoL
    rw [hA, hB]
    simp only [b8, wrapU8_byte, fdiv256]
    rw [if_neg (by rw [kSrc_B]; simp [adrV6]), bigR8_2]
    have e1 : ((8 + d.length : Nat) : Int).fdiv 1 = ((8 + d.length : Nat) : Int) := by rw [Int.fdiv_eq_ediv_of_nonneg _ (by omega), Int.ediv_one]
    have e2 : ((hdn true + d.length : Nat) : Int) = ((8 + d.length : Nat) : Int) := rfl
    rw [e2, e1, fdiv256]
    rfl
  rw [hF]
  refine ⟨hBuild4ZT8 n (bldS false true n fl d) (pad : Int) p q r fl d H, Runs.ofT0 (tBuildOk [10, p, q, r] [192, 168, 0, 1] H (bldS false true n fl d)) (F := 100) (n := 4) (pr := [(52, .bool false), (56, .bool false), (60, .bool false), (135, .bool true)]) ?_, _, congrArg some (congrArg (fun z => ABlk.cells z 1 Md.own _) kF)⟩
  refine (nfBuild4ZT n (bldS false true n fl d) (pad : Int) p q r fl d H _).trans ?_
  try rw [kC]
  try rw [kS]
  try rw [kE]
  refine (if_pos (wS)).trans ?_
  iterate 3 (refine (if_pos (decide_eq_false (by omega))).trans ?_)
  iterate 3 (refine (if_pos (by first | exact True.intro | rfl | omega | (simp [udpH, tcpH, bldE, hHl]; done) | (simp [udpH, tcpH, bldE, hHl]; omega))).trans ?_)
  refine (if_pos (cdec_true.2 (sayBytes wS hA rfl))).trans ?_
  refine (if_pos (cdec_true.2 (sayBytes wD hB rfl))).trans ?_
  iterate 3 (refine (if_pos (by first | exact True.intro | rfl | omega | (simp [udpH, tcpH, bldE, hHl]; done) | (simp [udpH, tcpH, bldE, hHl]; omega))).trans ?_)
  refine (if_pos (cdec_true.2 (sayRSum (l := (pseudoL (prt true) ((hdn true + d.length : Nat) : Int) (kSrc false n) (kDst false)) ++ (udpH (kport n) 80 (8 + d.length) 0 ++ d)) (bOk_row rfl (bysApp kP (bysTake2 kS (by simp [udpH, tcpH] <;> omega))) (by rw [List.length_append, ← bys_length (pseudoL (prt true) ((hdn true + d.length : Nat) : Int) (kSrc false n) (kDst false)), ← kP]; simp [udpH, tcpH] <;> omega)) (by simp <;> omega) rfl))).trans ?_
  refine (if_pos (by rw [f5]; simp; exact hc)).trans ?_
  iterate 2 (refine (if_pos (by first | exact True.intro | rfl | omega | (simp [udpH, tcpH, bldE, hHl]; done) | (simp [udpH, tcpH, bldE, hHl]; omega))).trans ?_)
  refine (if_pos (cdec_true.2 (say4Mk wS wD (by decide) ⟨by rw [kSrc_B]; rfl, by rw [kDst_B]; rfl, by rw [hdnE]; omega, by rw [hdnE]; omega⟩ hH rfl))).trans ?_
  iterate 11 (refine (if_pos (by first | exact True.intro | rfl | omega | (simp [udpH, tcpH, bldE, hHl]; done) | (simp [udpH, tcpH, bldE, hHl]; omega))).trans ?_)
  rfl

theorem runBuild4BF (n : Int) (pad : Nat) (p q r fl : UInt8) (d : List UInt8) (hd : d.length ≤ 2000) (hpad : pad ≤ 100) (hp : kb1 n = p.toNat) (hq : kb2 n = q.toNat) (hr : kb3 n = r.toNat) (H : List UInt8) (hH : (bldH false true n ((hdn true + d.length : Nat) : Int)) = H) :
    ∃ h1, Runs Try.prog 8 [.agg (keyV false true n), .int .u8 (fl.toNat : Int), slB 0 d, .bool false, .bool true, .int .i64 (pad : Int)] [farB d] (.sl (some (15, 0)) (14 + H.length + (8 + d.length) + (pad : Int).toNat) 0 false) h1 ∧
      ∃ par, h1[15]? = some (.cells (bys (bldF false true false true n fl d pad)) 1 .own par) := by
  have wS : adrWf (kSrc false n) = true := by rw [kSrc_B]; exact adrB_wf rfl
  have wD : adrWf (kDst false) = true := by rw [kDst_B]; exact adrB_wf rfl
  have hA : adrBytes (kSrc false n) = [10, p, q, r] := by
    rw [kSrc_B, adrB_F]; unfold kSrcB; rw [hp, hq, hr]; simp
  have hB : adrBytes (kDst false) = [192, 168, 0, 1] := by rw [kDst_B, adrB_F]; rfl
  have hHl : H.length = 20 := by rw [← hH, bldH_length _ _ _ _ (by unfold hdn; split <;> omega)]; rfl
  have hsr := bldS_range false true n fl d
  have hdnE : hdn true = 8 := rfl
  have f5 : IntKind.i64.wrap (65535 - (bldS false true n fl d)) = 65535 - (bldS false true n fl d) := wrapI64 (by omega)
  have kS : (cU n d) = bys (udpH (kport n) 80 (8 + d.length) 0 ++ d) := cU_eq n d hd
  have kE : cE false false = bys (bldE false false) := cE_eq _ _
  have kC : (cU n d) = bys (udpH (kport n) 80 (8 + d.length) 0 ++ d) := kS
  have kF : List.take ((14 + H.length + (8 + d.length)) * 1) (List.take ((14 + H.length) * 1) (cE false false ++ List.take (H.length * 1) (bys H)) ++ List.take ((8 + d.length) * 1) (cU n d)) ++ zrep (pad : Int).toNat [b8 0] = bys (bldE false false ++ H ++ (udpH (kport n) 80 (8 + d.length) 0 ++ d) ++ List.replicate pad 0) :=
    bysApp (bysTake2 (bysApp (bysTake2 (bysApp kE (bys_full _)) (by simp [bldE] <;> omega)) (bysTake2 kC (by simp [udpH, tcpH] <;> omega))) (by simp [bldE, udpH, tcpH] <;> omega)) (by rw [show (pad : Int).toNat = pad by omega]; exact zrep_byte pad)
  have hbc : bldC false true true n fl d = 0 := by
    unfold bldC
    rw [if_pos ⟨rfl, rfl⟩]
  have hG : bldG false true true n fl d = (udpH (kport n) 80 (8 + d.length) 0 ++ d) := by
    unfold bldG; rw [hbc]; rfl
  have hF : bldF false true false true n fl d pad = bldE false false ++ H ++ (udpH (kport n) 80 (8 + d.length) 0 ++ d) ++ List.replicate pad 0 := by
    unfold bldF; rw [hG, hH]
  rw [hF]
  refine ⟨hBuild4BF6 n (bldS false true n fl d) (pad : Int) p q r fl d H, Runs.ofT0 (tBuildOk [10, p, q, r] [192, 168, 0, 1] H (bldS false true n fl d)) (F := 100) (n := 4) (pr := [(52, .bool false), (56, .bool false), (60, .bool false)]) ?_, _, congrArg some (congrArg (fun z => ABlk.cells z 1 Md.own _) kF)⟩
  refine (nfBuild4BF n (bldS false true n fl d) (pad : Int) p q r fl d H _).trans ?_
  try rw [kC]
  try rw [kS]
  try rw [kE]
  refine (if_pos (wS)).trans ?_
  iterate 3 (refine (if_pos (decide_eq_false (by omega))).trans ?_)
  iterate 3 (refine (if_pos (by first | exact True.intro | rfl | omega | (simp [udpH, tcpH, bldE, hHl]; done) | (simp [udpH, tcpH, bldE, hHl]; omega))).trans ?_)
  refine (if_pos (cdec_true.2 (sayBytes wS hA rfl))).trans ?_
  refine (if_pos (cdec_true.2 (sayBytes wD hB rfl))).trans ?_
  refine (if_pos (cdec_true.2 (say4Mk wS wD (by decide) ⟨by rw [kSrc_B]; rfl, by rw [kDst_B]; rfl, by rw [hdnE]; omega, by rw [hdnE]; omega⟩ hH rfl))).trans ?_
  iterate 11 (refine (if_pos (by first | exact True.intro | rfl | omega | (simp [udpH, tcpH, bldE, hHl]; done) | (simp [udpH, tcpH, bldE, hHl]; omega))).trans ?_)
  rfl

theorem runBuild4BT (n : Int) (pad : Nat) (p q r fl : UInt8) (d : List UInt8) (hd : d.length ≤ 2000) (hpad : pad ≤ 100) (hp : kb1 n = p.toNat) (hq : kb2 n = q.toNat) (hr : kb3 n = r.toNat) (H : List UInt8) (hH : (bldH false true n ((hdn true + d.length : Nat) : Int)) = H) :
    ∃ h1, Runs Try.prog 8 [.agg (keyV false true n), .int .u8 (fl.toNat : Int), slB 0 d, .bool true, .bool true, .int .i64 (pad : Int)] [farB d] (.sl (some (17, 0)) (18 + H.length + (8 + d.length) + (pad : Int).toNat) 0 false) h1 ∧
      ∃ par, h1[17]? = some (.cells (bys (bldF false true true true n fl d pad)) 1 .own par) := by
  have wS : adrWf (kSrc false n) = true := by rw [kSrc_B]; exact adrB_wf rfl
  have wD : adrWf (kDst false) = true := by rw [kDst_B]; exact adrB_wf rfl
  have hA : adrBytes (kSrc false n) = [10, p, q, r] := by
    rw [kSrc_B, adrB_F]; unfold kSrcB; rw [hp, hq, hr]; simp
  have hB : adrBytes (kDst false) = [192, 168, 0, 1] := by rw [kDst_B, adrB_F]; rfl
  have hHl : H.length = 20 := by rw [← hH, bldH_length _ _ _ _ (by unfold hdn; split <;> omega)]; rfl
  have hsr := bldS_range false true n fl d
  have hdnE : hdn true = 8 := rfl
  have f5 : IntKind.i64.wrap (65535 - (bldS false true n fl d)) = 65535 - (bldS false true n fl d) := wrapI64 (by omega)
  have kS : (cU n d) = bys (udpH (kport n) 80 (8 + d.length) 0 ++ d) := cU_eq n d hd
  have kE : cE false true = bys (bldE false true) := cE_eq _ _
  have kC : (cU n d) = bys (udpH (kport n) 80 (8 + d.length) 0 ++ d) := kS
  have kF : List.take ((18 + H.length + (8 + d.length)) * 1) (List.take ((18 + H.length) * 1) (cE false true ++ List.take (H.length * 1) (bys H)) ++ List.take ((8 + d.length) * 1) (cU n d)) ++ zrep (pad : Int).toNat [b8 0] = bys (bldE false true ++ H ++ (udpH (kport n) 80 (8 + d.length) 0 ++ d) ++ List.replicate pad 0) :=
    bysApp (bysTake2 (bysApp (bysTake2 (bysApp kE (bys_full _)) (by simp [bldE] <;> omega)) (bysTake2 kC (by simp [udpH, tcpH] <;> omega))) (by simp [bldE, udpH, tcpH] <;> omega)) (by rw [show (pad : Int).toNat = pad by omega]; exact zrep_byte pad)
  have hbc : bldC false true true n fl d = 0 := by
    unfold bldC
    rw [if_pos ⟨rfl, rfl⟩]
  have hG : bldG false true true n fl d = (udpH (kport n) 80 (8 + d.length) 0 ++ d) := by
    unfold bldG; rw [hbc]; rfl
  have hF : bldF false true true true n fl d pad = bldE false true ++ H ++ (udpH (kport n) 80 (8 + d.length) 0 ++ d) ++ List.replicate pad 0 := by
    unfold bldF; rw [hG, hH]
  rw [hF]
  refine ⟨hBuild4BT6 n (bldS false true n fl d) (pad : Int) p q r fl d H, Runs.ofT0 (tBuildOk [10, p, q, r] [192, 168, 0, 1] H (bldS false true n fl d)) (F := 100) (n := 4) (pr := [(52, .bool false), (56, .bool false), (60, .bool false)]) ?_, _, congrArg some (congrArg (fun z => ABlk.cells z 1 Md.own _) kF)⟩
  refine (nfBuild4BT n (bldS false true n fl d) (pad : Int) p q r fl d H _).trans ?_
  try rw [kC]
  try rw [kS]
  try rw [kE]
  refine (if_pos (wS)).trans ?_
  iterate 3 (refine (if_pos (decide_eq_false (by omega))).trans ?_)
  iterate 3 (refine (if_pos (by first | exact True.intro | rfl | omega | (simp [udpH, tcpH, bldE, hHl]; done) | (simp [udpH, tcpH, bldE, hHl]; omega))).trans ?_)
  refine (if_pos (cdec_true.2 (sayBytes wS hA rfl))).trans ?_
  refine (if_pos (cdec_true.2 (sayBytes wD hB rfl))).trans ?_
  refine (if_pos (cdec_true.2 (say4Mk wS wD (by decide) ⟨by rw [kSrc_B]; rfl, by rw [kDst_B]; rfl, by rw [hdnE]; omega, by rw [hdnE]; omega⟩ hH rfl))).trans ?_
  iterate 11 (refine (if_pos (by first | exact True.intro | rfl | omega | (simp [udpH, tcpH, bldE, hHl]; done) | (simp [udpH, tcpH, bldE, hHl]; omega))).trans ?_)
  rfl

theorem runBuild6AF (n : Int) (pad : Nat) (p q r fl : UInt8) (d : List UInt8) (bare : Bool) (hd : d.length ≤ 2000) (hpad : pad ≤ 100) (hp : kb1 n = p.toNat) (hq : kb2 n = q.toNat) (hr : kb3 n = r.toNat) (H : List UInt8) (hH : (bldH true false n ((hdn false + d.length : Nat) : Int)) = H) (hc : 65535 - (bldS true false n fl d) ≠ 0) :
    ∃ h1, Runs Try.prog 8 [.agg (keyV true false n), .int .u8 (fl.toNat : Int), slB 0 d, .bool false, .bool bare, .int .i64 (pad : Int)] [farB d] (.sl (some (16, 0)) (14 + H.length + (20 + d.length) + (pad : Int).toNat) 0 false) h1 ∧
      ∃ par, h1[16]? = some (.cells (bys (bldF true false false bare n fl d pad)) 1 .own par) := by
  have wS : adrWf (kSrc true n) = true := by rw [kSrc_B]; exact adrB_wf rfl
  have wD : adrWf (kDst true) = true := by rw [kDst_B]; exact adrB_wf rfl
  have hA : adrBytes (kSrc true n) = [10, p, q, r, 0, 0, 0, 0, 0, 0, 0, 0, 0, 0, 0, 0] := by
    rw [kSrc_B, adrB_T]; unfold kSrcB; rw [hp, hq, hr]; simp
  have hB : adrBytes (kDst true) = [192, 168, 0, 1, 0, 0, 0, 0, 0, 0, 0, 0, 0, 0, 0, 0] := by rw [kDst_B, adrB_T]; rfl
  have hHl : H.length = 40 := by rw [← hH, bldH_length _ _ _ _ (by unfold hdn; split <;> omega)]; rfl
  have hsr := bldS_range true false n fl d
  have hdnE : hdn false = 20 := rfl
  have f5 : IntKind.i64.wrap (65535 - (bldS true false n fl d)) = 65535 - (bldS true false n fl d) := wrapI64 (by omega)
  have kS : (cT n fl d) = bys (tcpH (kport n) 80 fl 0 ++ d) := cT_eq n fl d
  have kE : cE true false = bys (bldE true false) := cE_eq _ _
  have kC : (putCells (putCells (cT n fl d) 16 [b8 (IntKind.u8.wrap ((IntKind.i64.wrap (65535 - (bldS true false n fl d))).fdiv 256))]) 17 [b8 (IntKind.u8.wrap (IntKind.i64.wrap (65535 - (bldS true false n fl d))))]) = bys (tcpH (kport n) 80 fl (65535 - (bldS true false n fl d)) ++ d) := by
    rw [f5, put2 (v := 65535 - (bldS true false n fl d)) kS (by simp [udpH, tcpH] <;> omega) rfl rfl, tcpH_put (by omega)]
  have kF : List.take ((14 + H.length + (20 + d.length)) * 1) (List.take ((14 + H.length) * 1) (cE true false ++ List.take (H.length * 1) (bys H)) ++ List.take ((20 + d.length) * 1) (putCells (putCells (cT n fl d) 16 [b8 (IntKind.u8.wrap ((IntKind.i64.wrap (65535 - (bldS true false n fl d))).fdiv 256))]) 17 [b8 (IntKind.u8.wrap (IntKind.i64.wrap (65535 - (bldS true false n fl d))))])) ++ zrep (pad : Int).toNat [b8 0] = bys (bldE true false ++ H ++ (tcpH (kport n) 80 fl (65535 - (bldS true false n fl d)) ++ d) ++ List.replicate pad 0) :=
    bysApp (bysTake2 (bysApp (bysTake2 (bysApp kE (bys_full _)) (by simp [bldE] <;> omega)) (bysTake2 kC (by simp [udpH, tcpH] <;> omega))) (by simp [bldE, udpH, tcpH] <;> omega)) (by rw [show (pad : Int).toNat = pad by omega]; exact zrep_byte pad)
  have hbc : bldC true false bare n fl d = (65535 - (bldS true false n fl d)) := by
    unfold bldC
    rw [if_neg (by simp), if_neg (by simp)]
  have hG : bldG true false bare n fl d = (tcpH (kport n) 80 fl (65535 - (bldS true false n fl d)) ++ d) := by
    unfold bldG; rw [hbc]; rfl
  have hF : bldF true false false bare n fl d pad = bldE true false ++ H ++ (tcpH (kport n) 80 fl (65535 - (bldS true false n fl d)) ++ d) ++ List.replicate pad 0 := by
    unfold bldF; rw [hG, hH]
  have kP : [b8 10, b8 (p.toNat : Int), b8 (q.toNat : Int), b8 (r.toNat : Int), b8 0, b8 0, b8 0, b8 0, b8 0, b8 0, b8 0, b8 0, b8 0, b8 0, b8 0, b8 0, b8 192, b8 168, b8 0, b8 1, b8 0, b8 0, b8 0, b8 0, b8 0, b8 0, b8 0, b8 0, b8 0, b8 0, b8 0, b8 0, b8 0, b8 0, b8 (IntKind.u8.wrap (((((20 + d.length) : Nat) : Int)).fdiv 256)), b8 (IntKind.u8.wrap (((20 + d.length) : Nat) : Int)), b8 0, b8 0, b8 0, b8 (intV (some (b8 6)))] = bys (pseudoL (prt false) ((hdn false + d.length : Nat) : Int) (kSrc true n) (kDst true)) := by
    unfold pseudoL
    rw [hA, hB]
    simp only [b8, wrapU8_byte, fdiv256]
    rw [if_pos (by rw [kSrc_B]; rfl), bigR8_4]
    have e1 : ((20 + d.length : Nat) : Int).fdiv 1 = ((20 + d.length : Nat) : Int) := by rw [Int.fdiv_eq_ediv_of_nonneg _ (by omega), Int.ediv_one]
    have e2 : ((hdn false + d.length : Nat) : Int) = ((20 + d.length : Nat) : Int) := rfl
    rw [e2, e1, fdiv256]
    have e3 : u8i (((20 + d.length : Nat) : Int).fdiv 16777216) = 0 := by rw [Int.fdiv_eq_ediv_of_nonneg _ (by omega), show ((20 + d.length : Nat) : Int) / 16777216 = 0 by omega]; rfl
    have e4 : u8i (((20 + d.length : Nat) : Int).fdiv 65536) = 0 := by rw [Int.fdiv_eq_ediv_of_nonneg _ (by omega), show ((20 + d.length : Nat) : Int) / 65536 = 0 by omega]; rfl
    rw [e3, e4]
    rfl
  rw [hF]
  refine ⟨hBuild6AF8 n (bldS true false n fl d) (pad : Int) p q r fl d H bare, Runs.ofT0 (tBuildOk [10, p, q, r, 0, 0, 0, 0, 0, 0, 0, 0, 0, 0, 0, 0] [192, 168, 0, 1, 0, 0, 0, 0, 0, 0, 0, 0, 0, 0, 0, 0] H (bldS true false n fl d)) (F := 100) (n := 4) (pr := [(52, .bool false), (56, .bool false), (60, .bool false), (135, .bool false)]) ?_, _, congrArg some (congrArg (fun z => ABlk.cells z 1 Md.own _) kF)⟩
  refine (nfBuild6AF n (bldS true false n fl d) (pad : Int) p q r fl d H bare _).trans ?_
  try rw [kC]
  try rw [kS]
  try rw [kE]
  refine (if_pos (wS)).trans ?_
  iterate 3 (refine (if_pos (decide_eq_false (by omega))).trans ?_)
  iterate 3 (refine (if_pos (by first | exact True.intro | rfl | omega | (simp [udpH, tcpH, bldE, hHl]; done) | (simp [udpH, tcpH, bldE, hHl]; omega))).trans ?_)
  refine (if_pos (cdec_true.2 (sayBytes wS hA rfl))).trans ?_
  refine (if_pos (cdec_true.2 (sayBytes wD hB rfl))).trans ?_
  iterate 3 (refine (if_pos (by first | exact True.intro | rfl | omega | (simp [udpH, tcpH, bldE, hHl]; done) | (simp [udpH, tcpH, bldE, hHl]; omega))).trans ?_)
  refine (if_pos (cdec_true.2 (sayRSum (l := (pseudoL (prt false) ((hdn false + d.length : Nat) : Int) (kSrc true n) (kDst true)) ++ (tcpH (kport n) 80 fl 0 ++ d)) (bOk_row rfl (bysApp kP (bysTake2 kS (by simp [udpH, tcpH] <;> omega))) (by rw [List.length_append, ← bys_length (pseudoL (prt false) ((hdn false + d.length : Nat) : Int) (kSrc true n) (kDst true)), ← kP]; simp [udpH, tcpH] <;> omega)) (by simp <;> omega) rfl))).trans ?_
  refine (if_pos (by rw [f5]; simp; exact hc)).trans ?_
  iterate 2 (refine (if_pos (by first | exact True.intro | rfl | omega | (simp [udpH, tcpH, bldE, hHl]; done) | (simp [udpH, tcpH, bldE, hHl]; omega))).trans ?_)
  refine (if_pos (cdec_true.2 (say6Mk wS wD (by decide) ⟨by rw [kSrc_B]; rfl, by rw [kDst_B]; rfl, by rw [hdnE]; omega, by rw [hdnE]; omega⟩ hH rfl))).trans ?_
  iterate 11 (refine (if_pos (by first | exact True.intro | rfl | omega | (simp [udpH, tcpH, bldE, hHl]; done) | (simp [udpH, tcpH, bldE, hHl]; omega))).trans ?_)
  rfl

theorem runBuild6AT (n : Int) (pad : Nat) (p q r fl : UInt8) (d : List UInt8) (bare : Bool) (hd : d.length ≤ 2000) (hpad : pad ≤ 100) (hp : kb1 n = p.toNat) (hq : kb2 n = q.toNat) (hr : kb3 n = r.toNat) (H : List UInt8) (hH : (bldH true false n ((hdn false + d.length : Nat) : Int)) = H) (hc : 65535 - (bldS true false n fl d) ≠ 0) :
    ∃ h1, Runs Try.prog 8 [.agg (keyV true false n), .int .u8 (fl.toNat : Int), slB 0 d, .bool true, .bool bare, .int .i64 (pad : Int)] [farB d] (.sl (some (18, 0)) (18 + H.length + (20 + d.length) + (pad : Int).toNat) 0 false) h1 ∧
      ∃ par, h1[18]? = some (.cells (bys (bldF true false true bare n fl d pad)) 1 .own par) := by
  have wS : adrWf (kSrc true n) = true := by rw [kSrc_B]; exact adrB_wf rfl
  have wD : adrWf (kDst true) = true := by rw [kDst_B]; exact adrB_wf rfl
  have hA : adrBytes (kSrc true n) = [10, p, q, r, 0, 0, 0, 0, 0, 0, 0, 0, 0, 0, 0, 0] := by
    rw [kSrc_B, adrB_T]; unfold kSrcB; rw [hp, hq, hr]; simp
  have hB : adrBytes (kDst true) = [192, 168, 0, 1, 0, 0, 0, 0, 0, 0, 0, 0, 0, 0, 0, 0] := by rw [kDst_B, adrB_T]; rfl
  have hHl : H.length = 40 := by rw [← hH, bldH_length _ _ _ _ (by unfold hdn; split <;> omega)]; rfl
  have hsr := bldS_range true false n fl d
  have hdnE : hdn false = 20 := rfl
  have f5 : IntKind.i64.wrap (65535 - (bldS true false n fl d)) = 65535 - (bldS true false n fl d) := wrapI64 (by omega)
  have kS : (cT n fl d) = bys (tcpH (kport n) 80 fl 0 ++ d) := cT_eq n fl d
  have kE : cE true true = bys (bldE true true) := cE_eq _ _
  have kC : (putCells (putCells (cT n fl d) 16 [b8 (IntKind.u8.wrap ((IntKind.i64.wrap (65535 - (bldS true false n fl d))).fdiv 256))]) 17 [b8 (IntKind.u8.wrap (IntKind.i64.wrap (65535 - (bldS true false n fl d))))]) = bys (tcpH (kport n) 80 fl (65535 - (bldS true false n fl d)) ++ d) := by
    rw [f5, put2 (v := 65535 - (bldS true false n fl d)) kS (by simp [udpH, tcpH] <;> omega) rfl rfl, tcpH_put (by omega)]
  have kF : List.take ((18 + H.length + (20 + d.length)) * 1) (List.take ((18 + H.length) * 1) (cE true true ++ List.take (H.length * 1) (bys H)) ++ List.take ((20 + d.length) * 1) (putCells (putCells (cT n fl d) 16 [b8 (IntKind.u8.wrap ((IntKind.i64.wrap (65535 - (bldS true false n fl d))).fdiv 256))]) 17 [b8 (IntKind.u8.wrap (IntKind.i64.wrap (65535 - (bldS true false n fl d))))])) ++ zrep (pad : Int).toNat [b8 0] = bys (bldE true true ++ H ++ (tcpH (kport n) 80 fl (65535 - (bldS true false n fl d)) ++ d) ++ List.replicate pad 0) :=
    bysApp (bysTake2 (bysApp (bysTake2 (bysApp kE (bys_full _)) (by simp [bldE] <;> omega)) (bysTake2 kC (by simp [udpH, tcpH] <;> omega))) (by simp [bldE, udpH, tcpH] <;> omega)) (by rw [show (pad : Int).toNat = pad by omega]; exact zrep_byte pad)
  have hbc : bldC true false bare n fl d = (65535 - (bldS true false n fl d)) := by
    unfold bldC
    rw [if_neg (by simp), if_neg (by simp)]
  have hG : bldG true false bare n fl d = (tcpH (kport n) 80 fl (65535 - (bldS true false n fl d)) ++ d) := by
    unfold bldG; rw [hbc]; rfl
  have hF : bldF true false true bare n fl d pad = bldE true true ++ H ++ (tcpH (kport n) 80 fl (65535 - (bldS true false n fl d)) ++ d) ++ List.replicate pad 0 := by
    unfold bldF; rw [hG, hH]
  have kP : [b8 10, b8 (p.toNat : Int), b8 (q.toNat : Int), b8 (r.toNat : Int), b8 0, b8 0, b8 0, b8 0, b8 0, b8 0, b8 0, b8 0, b8 0, b8 0, b8 0, b8 0, b8 192, b8 168, b8 0, b8 1, b8 0, b8 0, b8 0, b8 0, b8 0, b8 0, b8 0, b8 0, b8 0, b8 0, b8 0, b8 0, b8 0, b8 0, b8 (IntKind.u8.wrap (((((20 + d.length) : Nat) : Int)).fdiv 256)), b8 (IntKind.u8.wrap (((20 + d.length) : Nat) : Int)), b8 0, b8 0, b8 0, b8 (intV (some (b8 6)))] = bys (pseudoL (prt false) ((hdn false + d.length : Nat) : Int) (kSrc true n) (kDst true)) := by
    unfold pseudoL
    rw [hA, hB]
    simp only [b8, wrapU8_byte, fdiv256]
    rw [if_pos (by rw [kSrc_B]; rfl), bigR8_4]
    have e1 : ((20 + d.length : Nat) : Int).fdiv 1 = ((20 + d.length : Nat) : Int) := by rw [Int.fdiv_eq_ediv_of_nonneg _ (by omega), Int.ediv_one]
    have e2 : ((hdn false + d.length : Nat) : Int) = ((20 + d.length : Nat) : Int) := rfl
    rw [e2, e1, fdiv256]
    have e3 : u8i (((20 + d.length : Nat) : Int).fdiv 16777216) = 0 := by rw [Int.fdiv_eq_ediv_of_nonneg _ (by omega), show ((20 + d.length : Nat) : Int) / 16777216 = 0 by omega]; rfl
    have e4 : u8i (((20 + d.length : Nat) : Int).fdiv 65536) = 0 := by rw [Int.fdiv_eq_ediv_of_nonneg _ (by omega), show ((20 + d.length : Nat) : Int) / 65536 = 0 by omega]; rfl
    rw [e3, e4]
    rfl
  rw [hF]
  refine ⟨hBuild6AT8 n (bldS true false n fl d) (pad : Int) p q r fl d H bare, Runs.ofT0 (tBuildOk [10, p, q, r, 0, 0, 0, 0, 0, 0, 0, 0, 0, 0, 0, 0] [192, 168, 0, 1, 0, 0, 0, 0, 0, 0, 0, 0, 0, 0, 0, 0] H (bldS true false n fl d)) (F := 100) (n := 4) (pr := [(52, .bool false), (56, .bool false), (60, .bool false), (135, .bool false)]) ?_, _, congrArg some (congrArg (fun z => ABlk.cells z 1 Md.own _) kF)⟩
  refine (nfBuild6AT n (bldS true false n fl d) (pad : Int) p q r fl d H bare _).trans ?_
  try rw [kC]
  try rw [kS]
  try rw [kE]
  refine (if_pos (wS)).trans ?_
  iterate 3 (refine (if_pos (decide_eq_false (by omega))).trans ?_)
  iterate 3 (refine (if_pos (by first | exact True.intro | rfl | omega | (simp [udpH, tcpH, bldE, hHl]; done) | (simp [udpH, tcpH, bldE, hHl]; omega))).trans ?_)
  refine (if_pos (cdec_true.2 (sayBytes wS hA rfl))).trans ?_
  refine (if_pos (cdec_true.2 (sayBytes wD hB rfl))).trans ?_
  iterate 3 (refine (if_pos (by first | exact True.intro | rfl | omega | (simp [udpH, tcpH, bldE, hHl]; done) | (simp [udpH, tcpH, bldE, hHl]; omega))).trans ?_)
  refine (if_pos (cdec_true.2 (sayRSum (l := (pseudoL (prt false) ((hdn false + d.length : Nat) : Int) (kSrc true n) (kDst true)) ++ (tcpH (kport n) 80 fl 0 ++ d)) (bOk_row rfl (bysApp kP (bysTake2 kS (by simp [udpH, tcpH] <;> omega))) (by rw [List.length_append, ← bys_length (pseudoL (prt false) ((hdn false + d.length : Nat) : Int) (kSrc true n) (kDst true)), ← kP]; simp [udpH, tcpH] <;> omega)) (by simp <;> omega) rfl))).trans ?_
  refine (if_pos (by rw [f5]; simp; exact hc)).trans ?_
  iterate 2 (refine (if_pos (by first | exact True.intro | rfl | omega | (simp [udpH, tcpH, bldE, hHl]; done) | (simp [udpH, tcpH, bldE, hHl]; omega))).trans ?_)
  refine (if_pos (cdec_true.2 (say6Mk wS wD (by decide) ⟨by rw [kSrc_B]; rfl, by rw [kDst_B]; rfl, by rw [hdnE]; omega, by rw [hdnE]; omega⟩ hH rfl))).trans ?_
  iterate 11 (refine (if_pos (by first | exact True.intro | rfl | omega | (simp [udpH, tcpH, bldE, hHl]; done) | (simp [udpH, tcpH, bldE, hHl]; omega))).trans ?_)
  rfl

theorem runBuild6DF (n : Int) (pad : Nat) (p q r fl : UInt8) (d : List UInt8) (bare : Bool) (hd : d.length ≤ 2000) (hpad : pad ≤ 100) (hp : kb1 n = p.toNat) (hq : kb2 n = q.toNat) (hr : kb3 n = r.toNat) (H : List UInt8) (hH : (bldH true false n ((hdn false + d.length : Nat) : Int)) = H) (hc : 65535 - (bldS true false n fl d) = 0) :
    ∃ h1, Runs Try.prog 8 [.agg (keyV true false n), .int .u8 (fl.toNat : Int), slB 0 d, .bool false, .bool bare, .int .i64 (pad : Int)] [farB d] (.sl (some (16, 0)) (14 + H.length + (20 + d.length) + (pad : Int).toNat) 0 false) h1 ∧
      ∃ par, h1[16]? = some (.cells (bys (bldF true false false bare n fl d pad)) 1 .own par) := by
  have wS : adrWf (kSrc true n) = true := by rw [kSrc_B]; exact adrB_wf rfl
  have wD : adrWf (kDst true) = true := by rw [kDst_B]; exact adrB_wf rfl
  have hA : adrBytes (kSrc true n) = [10, p, q, r, 0, 0, 0, 0, 0, 0, 0, 0, 0, 0, 0, 0] := by
    rw [kSrc_B, adrB_T]; unfold kSrcB; rw [hp, hq, hr]; simp
  have hB : adrBytes (kDst true) = [192, 168, 0, 1, 0, 0, 0, 0, 0, 0, 0, 0, 0, 0, 0, 0] := by rw [kDst_B, adrB_T]; rfl
  have hHl : H.length = 40 := by rw [← hH, bldH_length _ _ _ _ (by unfold hdn; split <;> omega)]; rfl
  have hsr := bldS_range true false n fl d
  have hdnE : hdn false = 20 := rfl
  have f5 : IntKind.i64.wrap (65535 - (bldS true false n fl d)) = 65535 - (bldS true false n fl d) := wrapI64 (by omega)
  have kS : (cT n fl d) = bys (tcpH (kport n) 80 fl 0 ++ d) := cT_eq n fl d
  have kE : cE true false = bys (bldE true false) := cE_eq _ _
  have kC : (putCells (putCells (cT n fl d) 16 [b8 (IntKind.u8.wrap ((IntKind.i64.wrap (65535 - (bldS true false n fl d))).fdiv 256))]) 17 [b8 (IntKind.u8.wrap (IntKind.i64.wrap (65535 - (bldS true false n fl d))))]) = bys (tcpH (kport n) 80 fl (65535 - (bldS true false n fl d)) ++ d) := by
    rw [f5, put2 (v := 65535 - (bldS true false n fl d)) kS (by simp [udpH, tcpH] <;> omega) rfl rfl, tcpH_put (by omega)]
  have kF : List.take ((14 + H.length + (20 + d.length)) * 1) (List.take ((14 + H.length) * 1) (cE true false ++ List.take (H.length * 1) (bys H)) ++ List.take ((20 + d.length) * 1) (putCells (putCells (cT n fl d) 16 [b8 (IntKind.u8.wrap ((IntKind.i64.wrap (65535 - (bldS true false n fl d))).fdiv 256))]) 17 [b8 (IntKind.u8.wrap (IntKind.i64.wrap (65535 - (bldS true false n fl d))))])) ++ zrep (pad : Int).toNat [b8 0] = bys (bldE true false ++ H ++ (tcpH (kport n) 80 fl (65535 - (bldS true false n fl d)) ++ d) ++ List.replicate pad 0) :=
    bysApp (bysTake2 (bysApp (bysTake2 (bysApp kE (bys_full _)) (by simp [bldE] <;> omega)) (bysTake2 kC (by simp [udpH, tcpH] <;> omega))) (by simp [bldE, udpH, tcpH] <;> omega)) (by rw [show (pad : Int).toNat = pad by omega]; exact zrep_byte pad)
  have hbc : bldC true false bare n fl d = (65535 - (bldS true false n fl d)) := by
    unfold bldC
    rw [if_neg (by simp), if_neg (by simp)]
  have hG : bldG true false bare n fl d = (tcpH (kport n) 80 fl (65535 - (bldS true false n fl d)) ++ d) := by
    unfold bldG; rw [hbc]; rfl
  have hF : bldF true false false bare n fl d pad = bldE true false ++ H ++ (tcpH (kport n) 80 fl (65535 - (bldS true false n fl d)) ++ d) ++ List.replicate pad 0 := by
    unfold bldF; rw [hG, hH]
  have kP : [b8 10, b8 (p.toNat : Int), b8 (q.toNat : Int), b8 (r.toNat : Int), b8 0, b8 0, b8 0, b8 0, b8 0, b8 0, b8 0, b8 0, b8 0, b8 0, b8 0, b8 0, b8 192, b8 168, b8 0, b8 1, b8 0, b8 0, b8 0, b8 0, b8 0, b8 0, b8 0, b8 0, b8 0, b8 0, b8 0, b8 0, b8 0, b8 0, b8 (IntKind.u8.wrap (((((20 + d.length) : Nat) : Int)).fdiv 256)), b8 (IntKind.u8.wrap (((20 + d.length) : Nat) : Int)), b8 0, b8 0, b8 0, b8 (intV (some (b8 6)))] = bys (pseudoL (prt false) ((hdn false + d.length : Nat) : Int) (kSrc true n) (kDst true)) := by
    unfold pseudoL
    rw [hA, hB]
    simp only [b8, wrapU8_byte, fdiv256]
    rw [if_pos (by rw [kSrc_B]; rfl), bigR8_4]
    have e1 : ((20 + d.length : Nat) : Int).fdiv 1 = ((20 + d.length : Nat) : Int) := by rw [Int.fdiv_eq_ediv_of_nonneg _ (by omega), Int.ediv_one]
    have e2 : ((hdn false + d.length : Nat) : Int) = ((20 + d.length : Nat) : Int) := rfl
    rw [e2, e1, fdiv256]
    have e3 : u8i (((20 + d.length : Nat) : Int).fdiv 16777216) = 0 := by rw [Int.fdiv_eq_ediv_of_nonneg _ (by omega), show ((20 + d.length : Nat) : Int) / 16777216 = 0 by omega]; rfl
    have e4 : u8i (((20 + d.length : Nat) : Int).fdiv 65536) = 0 := by rw [Int.fdiv_eq_ediv_of_nonneg _ (by omega), show ((20 + d.length : Nat) : Int) / 65536 = 0 by omega]; rfl
    rw [e3, e4]
    rfl
  rw [hF]
  refine ⟨hBuild6DF8 n (bldS true false n fl d) (pad : Int) p q r fl d H bare, Runs.ofT0 (tBuildOk [10, p, q, r, 0, 0, 0, 0, 0, 0, 0, 0, 0, 0, 0, 0] [192, 168, 0, 1, 0, 0, 0, 0, 0, 0, 0, 0, 0, 0, 0, 0] H (bldS true false n fl d)) (F := 100) (n := 4) (pr := [(52, .bool false), (56, .bool false), (60, .bool false), (135, .bool true)]) ?_, _, congrArg some (congrArg (fun z => ABlk.cells z 1 Md.own _) kF)⟩
  refine (nfBuild6DF n (bldS true false n fl d) (pad : Int) p q r fl d H bare _).trans ?_
  try rw [kC]
  try rw [kS]
  try rw [kE]
  refine (if_pos (wS)).trans ?_
  iterate 3 (refine (if_pos (decide_eq_false (by omega))).trans ?_)
  iterate 3 (refine (if_pos (by first | exact True.intro | rfl | omega | (simp [udpH, tcpH, bldE, hHl]; done) | (simp [udpH, tcpH, bldE, hHl]; omega))).trans ?_)
  refine (if_pos (cdec_true.2 (sayBytes wS hA rfl))).trans ?_
  refine (if_pos (cdec_true.2 (sayBytes wD hB rfl))).trans ?_
  iterate 3 (refine (if_pos (by first | exact True.intro | rfl | omega | (simp [udpH, tcpH, bldE, hHl]; done) | (simp [udpH, tcpH, bldE, hHl]; omega))).trans ?_)
  refine (if_pos (cdec_true.2 (sayRSum (l := (pseudoL (prt false) ((hdn false + d.length : Nat) : Int) (kSrc true n) (kDst true)) ++ (tcpH (kport n) 80 fl 0 ++ d)) (bOk_row rfl (bysApp kP (bysTake2 kS (by simp [udpH, tcpH] <;> omega))) (by rw [List.length_append, ← bys_length (pseudoL (prt false) ((hdn false + d.length : Nat) : Int) (kSrc true n) (kDst true)), ← kP]; simp [udpH, tcpH] <;> omega)) (by simp <;> omega) rfl))).trans ?_
  refine (if_pos (by rw [f5]; simp; exact hc)).trans ?_
  iterate 2 (refine (if_pos (by first | exact True.intro | rfl | omega | (simp [udpH, tcpH, bldE, hHl]; done) | (simp [udpH, tcpH, bldE, hHl]; omega))).trans ?_)
  refine (if_pos (cdec_true.2 (say6Mk wS wD (by decide) ⟨by rw [kSrc_B]; rfl, by rw [kDst_B]; rfl, by rw [hdnE]; omega, by rw [hdnE]; omega⟩ hH rfl))).trans ?_
  iterate 11 (refine (if_pos (by first | exact True.intro | rfl | omega | (simp [udpH, tcpH, bldE, hHl]; done) | (simp [udpH, tcpH, bldE, hHl]; omega))).trans ?_)
  rfl

theorem runBuild6DT (n : Int) (pad : Nat) (p q r fl : UInt8) (d : List UInt8) (bare : Bool) (hd : d.length ≤ 2000) (hpad : pad ≤ 100) (hp : kb1 n = p.toNat) (hq : kb2 n = q.toNat) (hr : kb3 n = r.toNat) (H : List UInt8) (hH : (bldH true false n ((hdn false + d.length : Nat) : Int)) = H) (hc : 65535 - (bldS true false n fl d) = 0) :
    ∃ h1, Runs Try.prog 8 [.agg (keyV true false n), .int .u8 (fl.toNat : Int), slB 0 d, .bool true, .bool bare, .int .i64 (pad : Int)] [farB d] (.sl (some (18, 0)) (18 + H.length + (20 + d.length) + (pad : Int).toNat) 0 false) h1 ∧
      ∃ par, h1[18]? = some (.cells (bys (bldF true false true bare n fl d pad)) 1 .own par) := by
  have wS : adrWf (kSrc true n) = true := by rw [kSrc_B]; exact adrB_wf rfl
  have wD : adrWf (kDst true) = true := by rw [kDst_B]; exact adrB_wf rfl
  have hA : adrBytes (kSrc true n) = [10, p, q, r, 0, 0, 0, 0, 0, 0, 0, 0, 0, 0, 0, 0] := by
    rw [kSrc_B, adrB_T]; unfold kSrcB; rw [hp, hq, hr]; simp
  have hB : adrBytes (kDst true) = [192, 168, 0, 1, 0, 0, 0, 0, 0, 0, 0, 0, 0, 0, 0, 0] := by rw [kDst_B, adrB_T]; rfl
  have hHl : H.length = 40 := by rw [← hH, bldH_length _ _ _ _ (by unfold hdn; split <;> omega)]; rfl
  have hsr := bldS_range true false n fl d
  have hdnE : hdn false = 20 := rfl
  have f5 : IntKind.i64.wrap (65535 - (bldS true false n fl d)) = 65535 - (bldS true false n fl d) := wrapI64 (by omega)
  have kS : (cT n fl d) = bys (tcpH (kport n) 80 fl 0 ++ d) := cT_eq n fl d
  have kE : cE true true = bys (bldE true true) := cE_eq _ _
  have kC : (putCells (putCells (cT n fl d) 16 [b8 (IntKind.u8.wrap ((IntKind.i64.wrap (65535 - (bldS true false n fl d))).fdiv 256))]) 17 [b8 (IntKind.u8.wrap (IntKind.i64.wrap (65535 - (bldS true false n fl d))))]) = bys (tcpH (kport n) 80 fl (65535 - (bldS true false n fl d)) ++ d) := by
    rw [f5, put2 (v := 65535 - (bldS true false n fl d)) kS (by simp [udpH, tcpH] <;> omega) rfl rfl, tcpH_put (by omega)]
  have kF : List.take ((18 + H.length + (20 + d.length)) * 1) (List.take ((18 + H.length) * 1) (cE true true ++ List.take (H.length * 1) (bys H)) ++ List.take ((20 + d.length) * 1) (putCells (putCells (cT n fl d) 16 [b8 (IntKind.u8.wrap ((IntKind.i64.wrap (65535 - (bldS true false n fl d))).fdiv 256))]) 17 [b8 (IntKind.u8.wrap (IntKind.i64.wrap (65535 - (bldS true false n fl d))))])) ++ zrep (pad : Int).toNat [b8 0] = bys (bldE true true ++ H ++ (tcpH (kport n) 80 fl (65535 - (bldS true false n fl d)) ++ d) ++ List.replicate pad 0) :=
    bysApp (bysTake2 (bysApp (bysTake2 (bysApp kE (bys_full _)) (by simp [bldE] <;> omega)) (bysTake2 kC (by simp [udpH, tcpH] <;> omega))) (by simp [bldE, udpH, tcpH] <;> omega)) (by rw [show (pad : Int).toNat = pad by omega]; exact zrep_byte pad)
  have hbc : bldC true false bare n fl d = (65535 - (bldS true false n fl d)) := by
    unfold bldC
    rw [if_neg (by simp), if_neg (by simp)]
  have hG : bldG true false bare n fl d = (tcpH (kport n) 80 fl (65535 - (bldS true false n fl d)) ++ d) := by
    unfold bldG; rw [hbc]; rfl
  have hF : bldF true false true bare n fl d pad = bldE true true ++ H ++ (tcpH (kport n) 80 fl (65535 - (bldS true false n fl d)) ++ d) ++ List.replicate pad 0 := by
    unfold bldF; rw [hG, hH]
  have kP : [b8 10, b8 (p.toNat : Int), b8 (q.toNat : Int), b8 (r.toNat : Int), b8 0, b8 0, b8 0, b8 0, b8 0, b8 0, b8 0, b8 0, b8 0, b8 0, b8 0, b8 0, b8 192, b8 168, b8 0, b8 1, b8 0, b8 0, b8 0, b8 0, b8 0, b8 0, b8 0, b8 0, b8 0, b8 0, b8 0, b8 0, b8 0, b8 0, b8 (IntKind.u8.wrap (((((20 + d.length) : Nat) : Int)).fdiv 256)), b8 (IntKind.u8.wrap (((20 + d.length) : Nat) : Int)), b8 0, b8 0, b8 0, b8 (intV (some (b8 6)))] = bys (pseudoL (prt false) ((hdn false + d.length : Nat) : Int) (kSrc true n) (kDst true)) := by
    unfold pseudoL
    rw [hA, hB]
    simp only [b8, wrapU8_byte, fdiv256]
    rw [if_pos (by rw [kSrc_B]; rfl), bigR8_4]
    have e1 : ((20 + d.length : Nat) : Int).fdiv 1 = ((20 + d.length : Nat) : Int) := by rw [Int.fdiv_eq_ediv_of_nonneg _ (by omega), Int.ediv_one]
    have e2 : ((hdn false + d.length : Nat) : Int) = ((20 + d.length : Nat) : Int) := rfl
    rw [e2, e1, fdiv256]
    have e3 : u8i (((20 + d.length : Nat) : Int).fdiv 16777216) = 0 := by rw [Int.fdiv_eq_ediv_of_nonneg _ (by omega), show ((20 + d.length : Nat) : Int) / 16777216 = 0 by omega]; rfl
    have e4 : u8i (((20 + d.length : Nat) : Int).fdiv 65536) = 0 := by rw [Int.fdiv_eq_ediv_of_nonneg _ (by omega), show ((20 + d.length : Nat) : Int) / 65536 = 0 by omega]; rfl
    rw [e3, e4]
    rfl
  rw [hF]
  refine ⟨hBuild6DT8 n (bldS true false n fl d) (pad : Int) p q r fl d H bare, Runs.ofT0 (tBuildOk [10, p, q, r, 0, 0, 0, 0, 0, 0, 0, 0, 0, 0, 0, 0] [192, 168, 0, 1, 0, 0, 0, 0, 0, 0, 0, 0, 0, 0, 0, 0] H (bldS true false n fl d)) (F := 100) (n := 4) (pr := [(52, .bool false), (56, .bool false), (60, .bool false), (135, .bool true)]) ?_, _, congrArg some (congrArg (fun z => ABlk.cells z 1 Md.own _) kF)⟩
  refine (nfBuild6DT n (bldS true false n fl d) (pad : Int) p q r fl d H bare _).trans ?_
  try rw [kC]
  try rw [kS]
  try rw [kE]
  refine (if_pos (wS)).trans ?_
  iterate 3 (refine (if_pos (decide_eq_false (by omega))).trans ?_)
  iterate 3 (refine (if_pos (by first | exact True.intro | rfl | omega | (simp [udpH, tcpH, bldE, hHl]; done) | (simp [udpH, tcpH, bldE, hHl]; omega))).trans ?_)
  refine (if_pos (cdec_true.2 (sayBytes wS hA rfl))).trans ?_
  refine (if_pos (cdec_true.2 (sayBytes wD hB rfl))).trans ?_
  iterate 3 (refine (if_pos (by first | exact True.intro | rfl | omega | (simp [udpH, tcpH, bldE, hHl]; done) | (simp [udpH, tcpH, bldE, hHl]; omega))).trans ?_)
  refine (if_pos (cdec_true.2 (sayRSum (l := (pseudoL (prt false) ((hdn false + d.length : Nat) : Int) (kSrc true n) (kDst true)) ++ (tcpH (kport n) 80 fl 0 ++ d)) (bOk_row rfl (bysApp kP (bysTake2 kS (by simp [udpH, tcpH] <;> omega))) (by rw [List.length_append, ← bys_length (pseudoL (prt false) ((hdn false + d.length : Nat) : Int) (kSrc true n) (kDst true)), ← kP]; simp [udpH, tcpH] <;> omega)) (by simp <;> omega) rfl))).trans ?_
  refine (if_pos (by rw [f5]; simp; exact hc)).trans ?_
  iterate 2 (refine (if_pos (by first | exact True.intro | rfl | omega | (simp [udpH, tcpH, bldE, hHl]; done) | (simp [udpH, tcpH, bldE, hHl]; omega))).trans ?_)
  refine (if_pos (cdec_true.2 (say6Mk wS wD (by decide) ⟨by rw [kSrc_B]; rfl, by rw [kDst_B]; rfl, by rw [hdnE]; omega, by rw [hdnE]; omega⟩ hH rfl))).trans ?_
  iterate 11 (refine (if_pos (by first | exact True.intro | rfl | omega | (simp [udpH, tcpH, bldE, hHl]; done) | (simp [udpH, tcpH, bldE, hHl]; omega))).trans ?_)
  rfl

theorem runBuild6UF (n : Int) (pad : Nat) (p q r fl : UInt8) (d : List UInt8) (hd : d.length ≤ 2000) (hpad : pad ≤ 100) (hp : kb1 n = p.toNat) (hq : kb2 n = q.toNat) (hr : kb3 n = r.toNat) (H : List UInt8) (hH : (bldH true true n ((hdn true + d.length : Nat) : Int)) = H) (hc : 65535 - (bldS true true n fl d) ≠ 0) :
    ∃ h1, Runs Try.prog 8 [.agg (keyV true true n), .int .u8 (fl.toNat : Int), slB 0 d, .bool false, .bool false, .int .i64 (pad : Int)] [farB d] (.sl (some (16, 0)) (14 + H.length + (8 + d.length) + (pad : Int).toNat) 0 false) h1 ∧
      ∃ par, h1[16]? = some (.cells (bys (bldF true true false false n fl d pad)) 1 .own par) := by
  have wS : adrWf (kSrc true n) = true := by rw [kSrc_B]; exact adrB_wf rfl
  have wD : adrWf (kDst true) = true := by rw [kDst_B]; exact adrB_wf rfl
  have hA : adrBytes (kSrc true n) = [10, p, q, r, 0, 0, 0, 0, 0, 0, 0, 0, 0, 0, 0, 0] := by
    rw [kSrc_B, adrB_T]; unfold kSrcB; rw [hp, hq, hr]; simp
  have hB : adrBytes (kDst true) = [192, 168, 0, 1, 0, 0, 0, 0, 0, 0, 0, 0, 0, 0, 0, 0] := by rw [kDst_B, adrB_T]; rfl
  have hHl : H.length = 40 := by rw [← hH, bldH_length _ _ _ _ (by unfold hdn; split <;> omega)]; rfl
  have hsr := bldS_range true true n fl d
  have hdnE : hdn true = 8 := rfl
  have f5 : IntKind.i64.wrap (65535 - (bldS true true n fl d)) = 65535 - (bldS true true n fl d) := wrapI64 (by omega)
  have kS : (cU n d) = bys (udpH (kport n) 80 (8 + d.length) 0 ++ d) := cU_eq n d hd
  have kE : cE true false = bys (bldE true false) := cE_eq _ _
  have kC : (putCells (putCells (cU n d) 6 [b8 (IntKind.u8.wrap ((IntKind.i64.wrap (65535 - (bldS true true n fl d))).fdiv 256))]) 7 [b8 (IntKind.u8.wrap (IntKind.i64.wrap (65535 - (bldS true true n fl d))))]) = bys (udpH (kport n) 80 (8 + d.length) (65535 - (bldS true true n fl d)) ++ d) := by
    rw [f5, put2 (v := 65535 - (bldS true true n fl d)) kS (by simp [udpH, tcpH] <;> omega) rfl rfl, udpH_put (by omega)]
  have kF : List.take ((14 + H.length + (8 + d.length)) * 1) (List.take ((14 + H.length) * 1) (cE true false ++ List.take (H.length * 1) (bys H)) ++ List.take ((8 + d.length) * 1) (putCells (putCells (cU n d) 6 [b8 (IntKind.u8.wrap ((IntKind.i64.wrap (65535 - (bldS true true n fl d))).fdiv 256))]) 7 [b8 (IntKind.u8.wrap (IntKind.i64.wrap (65535 - (bldS true true n fl d))))])) ++ zrep (pad : Int).toNat [b8 0] = bys (bldE true false ++ H ++ (udpH (kport n) 80 (8 + d.length) (65535 - (bldS true true n fl d)) ++ d) ++ List.replicate pad 0) :=
    bysApp (bysTake2 (bysApp (bysTake2 (bysApp kE (bys_full _)) (by simp [bldE] <;> omega)) (bysTake2 kC (by simp [udpH, tcpH] <;> omega))) (by simp [bldE, udpH, tcpH] <;> omega)) (by rw [show (pad : Int).toNat = pad by omega]; exact zrep_byte pad)
  have hbc : bldC true true false n fl d = (65535 - (bldS true true n fl d)) := by
    unfold bldC
    rw [if_neg (by simp), if_neg (by simp; exact hc)]
  have hG : bldG true true false n fl d = (udpH (kport n) 80 (8 + d.length) (65535 - (bldS true true n fl d)) ++ d) := by
    unfold bldG; rw [hbc]; rfl
  have hF : bldF true true false false n fl d pad = bldE true false ++ H ++ (udpH (kport n) 80 (8 + d.length) (65535 - (bldS true true n fl d)) ++ d) ++ List.replicate pad 0 := by
    unfold bldF; rw [hG, hH]
  have kP : [b8 10, b8 (p.toNat : Int), b8 (q.toNat : Int), b8 (r.toNat : Int), b8 0, b8 0, b8 0, b8 0, b8 0, b8 0, b8 0, b8 0, b8 0, b8 0, b8 0, b8 0, b8 192, b8 168, b8 0, b8 1, b8 0, b8 0, b8 0, b8 0, b8 0, b8 0, b8 0, b8 0, b8 0, b8 0, b8 0, b8 0, b8 0, b8 0, b8 (IntKind.u8.wrap (((((8 + d.length) : Nat) : Int)).fdiv 256)), b8 (IntKind.u8.wrap (((8 + d.length) : Nat) : Int)), b8 0, b8 0, b8 0, b8 (intV (some (b8 17)))] = bys (pseudoL (prt true) ((hdn true + d.length : Nat) : Int) (kSrc true n) (kDst true)) := by
    unfold pseudoL
    rw [hA, hB]
    simp only [b8, wrapU8_byte, fdiv256]
    rw [if_pos (by rw [kSrc_B]; rfl), bigR8_4]
    have e1 : ((8 + d.length : Nat) : Int).fdiv 1 = ((8 + d.length : Nat) : Int) := by rw [Int.fdiv_eq_ediv_of_nonneg _ (by omega), Int.ediv_one]
    have e2 : ((hdn true + d.length : Nat) : Int) = ((8 + d.length : Nat) : Int) := rfl
    rw [e2, e1, fdiv256]
    have e3 : u8i (((8 + d.length : Nat) : Int).fdiv 16777216) = 0 := by rw [Int.fdiv_eq_ediv_of_nonneg _ (by omega), show ((8 + d.length : Nat) : Int) / 16777216 = 0 by omega]; rfl
    have e4 : u8i (((8 + d.length : Nat) : Int).fdiv 65536) = 0 := by rw [Int.fdiv_eq_ediv_of_nonneg _ (by omega), show ((8 + d.length : Nat) : Int) / 65536 = 0 by omega]; rfl
    rw [e3, e4]
    rfl
  rw [hF]
  refine ⟨hBuild6UF8 n (bldS true true n fl d) (pad : Int) p q r fl d H, Runs.ofT0 (tBuildOk [10, p, q, r, 0, 0, 0, 0, 0, 0, 0, 0, 0, 0, 0, 0] [192, 168, 0, 1, 0, 0, 0, 0, 0, 0, 0, 0, 0, 0, 0, 0] H (bldS true true n fl d)) (F := 100) (n := 4) (pr := [(52, .bool false), (56, .bool false), (60, .bool false), (135, .bool false)]) ?_, _, congrArg some (congrArg (fun z => ABlk.cells z 1 Md.own _) kF)⟩
  refine (nfBuild6UF n (bldS true true n fl d) (pad : Int) p q r fl d H _).trans ?_
  try rw [kC]
  try rw [kS]
  try rw [kE]
  refine (if_pos (wS)).trans ?_
  iterate 3 (refine (if_pos (decide_eq_false (by omega))).trans ?_)
  iterate 3 (refine (if_pos (by first | exact True.intro | rfl | omega | (simp [udpH, tcpH, bldE, hHl]; done) | (simp [udpH, tcpH, bldE, hHl]; omega))).trans ?_)
  refine (if_pos (cdec_true.2 (sayBytes wS hA rfl))).trans ?_
  refine (if_pos (cdec_true.2 (sayBytes wD hB rfl))).trans ?_
  iterate 3 (refine (if_pos (by first | exact True.intro | rfl | omega | (simp [udpH, tcpH, bldE, hHl]; done) | (simp [udpH, tcpH, bldE, hHl]; omega))).trans ?_)
  refine (if_pos (cdec_true.2 (sayRSum (l := (pseudoL (prt true) ((hdn true + d.length : Nat) : Int) (kSrc true n) (kDst true)) ++ (udpH (kport n) 80 (8 + d.length) 0 ++ d)) (bOk_row rfl (bysApp kP (bysTake2 kS (by simp [udpH, tcpH] <;> omega))) (by rw [List.length_append, ← bys_length (pseudoL (prt true) ((hdn true + d.length : Nat) : Int) (kSrc true n) (kDst true)), ← kP]; simp [udpH, tcpH] <;> omega)) (by simp <;> omega) rfl))).trans ?_
  refine (if_pos (by rw [f5]; simp; exact hc)).trans ?_
  iterate 2 (refine (if_pos (by first | exact True.intro | rfl | omega | (simp [udpH, tcpH, bldE, hHl]; done) | (simp [udpH, tcpH, bldE, hHl]; omega))).trans ?_)
  refine (if_pos (cdec_true.2 (say6Mk wS wD (by decide) ⟨by rw [kSrc_B]; rfl, by rw [kDst_B]; rfl, by rw [hdnE]; omega, by rw [hdnE]; omega⟩ hH rfl))).trans ?_
  iterate 11 (refine (if_pos (by first | exact True.intro | rfl | omega | (simp [udpH, tcpH, bldE, hHl]; done) | (simp [udpH, tcpH, bldE, hHl]; omega))).trans ?_)
  rfl

theorem runBuild6UT (n : Int) (pad : Nat) (p q r fl : UInt8) (d : List UInt8) (hd : d.length ≤ 2000) (hpad : pad ≤ 100) (hp : kb1 n = p.toNat) (hq : kb2 n = q.toNat) (hr : kb3 n = r.toNat) (H : List UInt8) (hH : (bldH true true n ((hdn true + d.length : Nat) : Int)) = H) (hc : 65535 - (bldS true true n fl d) ≠ 0) :
    ∃ h1, Runs Try.prog 8 [.agg (keyV true true n), .int .u8 (fl.toNat : Int), slB 0 d, .bool true, .bool false, .int .i64 (pad : Int)] [farB d] (.sl (some (18, 0)) (18 + H.length + (8 + d.length) + (pad : Int).toNat) 0 false) h1 ∧
      ∃ par, h1[18]? = some (.cells (bys (bldF true true true false n fl d pad)) 1 .own par) := by
  have wS : adrWf (kSrc true n) = true := by rw [kSrc_B]; exact adrB_wf rfl
  have wD : adrWf (kDst true) = true := by rw [kDst_B]; exact adrB_wf rfl
  have hA : adrBytes (kSrc true n) = [10, p, q, r, 0, 0, 0, 0, 0, 0, 0, 0, 0, 0, 0, 0] := by
    rw [kSrc_B, adrB_T]; unfold kSrcB; rw [hp, hq, hr]; simp
  have hB : adrBytes (kDst true) = [192, 168, 0, 1, 0, 0, 0, 0, 0, 0, 0, 0, 0, 0, 0, 0] := by rw [kDst_B, adrB_T]; rfl
  have hHl : H.length = 40 := by rw [← hH, bldH_length _ _ _ _ (by unfold hdn; split <;> omega)]; rfl
  have hsr := bldS_range true true n fl d
  have hdnE : hdn true = 8 := rfl
  have f5 : IntKind.i64.wrap (65535 - (bldS true true n fl d)) = 65535 - (bldS true true n fl d) := wrapI64 (by omega)
  have kS : (cU n d) = bys (udpH (kport n) 80 (8 + d.length) 0 ++ d) := cU_eq n d hd
  have kE : cE true true = bys (bldE true true) := cE_eq _ _
  have kC : (putCells (putCells (cU n d) 6 [b8 (IntKind.u8.wrap ((IntKind.i64.wrap (65535 - (bldS true true n fl d))).fdiv 256))]) 7 [b8 (IntKind.u8.wrap (IntKind.i64.wrap (65535 - (bldS true true n fl d))))]) = bys (udpH (kport n) 80 (8 + d.length) (65535 - (bldS true true n fl d)) ++ d) := by
    rw [f5, put2 (v := 65535 - (bldS true true n fl d)) kS (by simp [udpH, tcpH] <;> omega) rfl rfl, udpH_put (by omega)]
  have kF : List.take ((18 + H.length + (8 + d.length)) * 1) (List.take ((18 + H.length) * 1) (cE true true ++ List.take (H.length * 1) (bys H)) ++ List.take ((8 + d.length) * 1) (putCells (putCells (cU n d) 6 [b8 (IntKind.u8.wrap ((IntKind.i64.wrap (65535 - (bldS true true n fl d))).fdiv 256))]) 7 [b8 (IntKind.u8.wrap (IntKind.i64.wrap (65535 - (bldS true true n fl d))))])) ++ zrep (pad : Int).toNat [b8 0] = bys (bldE true true ++ H ++ (udpH (kport n) 80 (8 + d.length) (65535 - (bldS true true n fl d)) ++ d) ++ List.replicate pad 0) :=
    bysApp (bysTake2 (bysApp (bysTake2 (bysApp kE (bys_full _)) (by simp [bldE] <;> omega)) (bysTake2 kC (by simp [udpH, tcpH] <;> omega))) (by simp [bldE, udpH, tcpH] <;> omega)) (by rw [show (pad : Int).toNat = pad by omega]; exact zrep_byte pad)
  have hbc : bldC true true false n fl d = (65535 - (bldS true true n fl d)) := by
    unfold bldC
    rw [if_neg (by simp), if_neg (by simp; exact hc)]
  have hG : bldG true true false n fl d = (udpH (kport n) 80 (8 + d.length) (65535 - (bldS true true n fl d)) ++ d) := by
    unfold bldG; rw [hbc]; rfl
  have hF : bldF true true true false n fl d pad = bldE true true ++ H ++ (udpH (kport n) 80 (8 + d.length) (65535 - (bldS true true n fl d)) ++ d) ++ List.replicate pad 0 := by
    unfold bldF; rw [hG, hH]
  have kP : [b8 10, b8 (p.toNat : Int), b8 (q.toNat : Int), b8 (r.toNat : Int), b8 0, b8 0, b8 0, b8 0, b8 0, b8 0, b8 0, b8 0, b8 0, b8 0, b8 0, b8 0, b8 192, b8 168, b8 0, b8 1, b8 0, b8 0, b8 0, b8 0, b8 0, b8 0, b8 0, b8 0, b8 0, b8 0, b8 0, b8 0, b8 0, b8 0, b8 (IntKind.u8.wrap (((((8 + d.length) : Nat) : Int)).fdiv 256)), b8 (IntKind.u8.wrap (((8 + d.length) : Nat) : Int)), b8 0, b8 0, b8 0, b8 (intV (some (b8 17)))] = bys (pseudoL (prt true) ((hdn true + d.length : Nat) : Int) (kSrc true n) (kDst true)) := by
    unfold pseudoL
    rw [hA, hB]
    simp only [b8, wrapU8_byte, fdiv256]
    rw [if_pos (by rw [kSrc_B]; rfl), bigR8_4]
    have e1 : ((8 + d.length : Nat) : Int).fdiv 1 = ((8 + d.length : Nat) : Int) := by rw [Int.fdiv_eq_ediv_of_nonneg _ (by omega), Int.ediv_one]
    have e2 : ((hdn true + d.length : Nat) : Int) = ((8 + d.length : Nat) : Int) := rfl
    rw [e2, e1, fdiv256]
    have e3 : u8i (((8 + d.length : Nat) : Int).fdiv 16777216) = 0 := by rw [Int.fdiv_eq_ediv_of_nonneg _ (by omega), show ((8 + d.length : Nat) : Int) / 16777216 = 0 by omega]; rfl
    have e4 : u8i (((8 + d.length : Nat) : Int).fdiv 65536) = 0 := by rw [Int.fdiv_eq_ediv_of_nonneg _ (by omega), show ((8 + d.length : Nat) : Int) / 65536 = 0 by omega]; rfl
    rw [e3, e4]
    rfl
  rw [hF]
  refine ⟨hBuild6UT8 n (bldS true true n fl d) (pad : Int) p q r fl d H, Runs.ofT0 (tBuildOk [10, p, q, r, 0, 0, 0, 0, 0, 0, 0, 0, 0, 0, 0, 0] [192, 168, 0, 1, 0, 0, 0, 0, 0, 0, 0, 0, 0, 0, 0, 0] H (bldS true true n fl d)) (F := 100) (n := 4) (pr := [(52, .bool false), (56, .bool false), (60, .bool false), (135, .bool false)]) ?_, _, congrArg some (congrArg (fun z => ABlk.cells z 1 Md.own _) kF)⟩
  refine (nfBuild6UT n (bldS true true n fl d) (pad : Int) p q r fl d H _).trans ?_
  try rw [kC]
  try rw [kS]
  try rw [kE]
  refine (if_pos (wS)).trans ?_
  iterate 3 (refine (if_pos (decide_eq_false (by omega))).trans ?_)
  iterate 3 (refine (if_pos (by first | exact True.intro | rfl | omega | (simp [udpH, tcpH, bldE, hHl]; done) | (simp [udpH, tcpH, bldE, hHl]; omega))).trans ?_)
  refine (if_pos (cdec_true.2 (sayBytes wS hA rfl))).trans ?_
  refine (if_pos (cdec_true.2 (sayBytes wD hB rfl))).trans ?_
  iterate 3 (refine (if_pos (by first | exact True.intro | rfl | omega | (simp [udpH, tcpH, bldE, hHl]; done) | (simp [udpH, tcpH, bldE, hHl]; omega))).trans ?_)
  refine (if_pos (cdec_true.2 (sayRSum (l := (pseudoL (prt true) ((hdn true + d.length : Nat) : Int) (kSrc true n) (kDst true)) ++ (udpH (kport n) 80 (8 + d.length) 0 ++ d)) (bOk_row rfl (bysApp kP (bysTake2 kS (by simp [udpH, tcpH] <;> omega))) (by rw [List.length_append, ← bys_length (pseudoL (prt true) ((hdn true + d.length : Nat) : Int) (kSrc true n) (kDst true)), ← kP]; simp [udpH, tcpH] <;> omega)) (by simp <;> omega) rfl))).trans ?_
  refine (if_pos (by rw [f5]; simp; exact hc)).trans ?_
  iterate 2 (refine (if_pos (by first | exact True.intro | rfl | omega | (simp [udpH, tcpH, bldE, hHl]; done) | (simp [udpH, tcpH, bldE, hHl]; omega))).trans ?_)
  refine (if_pos (cdec_true.2 (say6Mk wS wD (by decide) ⟨by rw [kSrc_B]; rfl, by rw [kDst_B]; rfl, by rw [hdnE]; omega, by rw [hdnE]; omega⟩ hH rfl))).trans ?_
  iterate 11 (refine (if_pos (by first | exact True.intro | rfl | omega | (simp [udpH, tcpH, bldE, hHl]; done) | (simp [udpH, tcpH, bldE, hHl]; omega))).trans ?_)
  rfl

theorem runBuild6ZF (n : Int) (pad : Nat) (p q r fl : UInt8) (d : List UInt8) (hd : d.length ≤ 2000) (hpad : pad ≤ 100) (hp : kb1 n = p.toNat) (hq : kb2 n = q.toNat) (hr : kb3 n = r.toNat) (H : List UInt8) (hH : (bldH true true n ((hdn true + d.length : Nat) : Int)) = H) (hc : 65535 - (bldS true true n fl d) = 0) :
    ∃ h1, Runs Try.prog 8 [.agg (keyV true true n), .int .u8 (fl.toNat : Int), slB 0 d, .bool false, .bool false, .int .i64 (pad : Int)] [farB d] (.sl (some (16, 0)) (14 + H.length + (8 + d.length) + (pad : Int).toNat) 0 false) h1 ∧
      ∃ par, h1[16]? = some (.cells (bys (bldF true true false false n fl d pad)) 1 .own par) := by
  have wS : adrWf (kSrc true n) = true := by rw [kSrc_B]; exact adrB_wf rfl
  have wD : adrWf (kDst true) = true := by rw [kDst_B]; exact adrB_wf rfl
  have hA : adrBytes (kSrc true n) = [10, p, q, r, 0, 0, 0, 0, 0, 0, 0, 0, 0, 0, 0, 0] := by
    rw [kSrc_B, adrB_T]; unfold kSrcB; rw [hp, hq, hr]; simp
  have hB : adrBytes (kDst true) = [192, 168, 0, 1, 0, 0, 0, 0, 0, 0, 0, 0, 0, 0, 0, 0] := by rw [kDst_B, adrB_T]; rfl
  have hHl : H.length = 40 := by rw [← hH, bldH_length _ _ _ _ (by unfold hdn; split <;> omega)]; rfl
  have hsr := bldS_range true true n fl d
  have hdnE : hdn true = 8 := rfl
  have f5 : IntKind.i64.wrap (65535 - (bldS true true n fl d)) = 65535 - (bldS true true n fl d) := wrapI64 (by omega)
  have kS : (cU n d) = bys (udpH (kport n) 80 (8 + d.length) 0 ++ d) := cU_eq n d hd
  have kE : cE true false = bys (bldE true false) := cE_eq _ _
  have kC : (putCells (putCells (cU n d) 6 [b8 255]) 7 [b8 255]) = bys (udpH (kport n) 80 (8 + d.length) 65535 ++ d) := by
    rw [put2 (v := 65535) kS (by simp [udpH, tcpH] <;> omega) (by decide) (by decide), udpH_put (by omega)]
  have kF : List.take ((14 + H.length + (8 + d.length)) * 1) (List.take ((14 + H.length) * 1) (cE true false ++ List.take (H.length * 1) (bys H)) ++ List.take ((8 + d.length) * 1) (putCells (putCells (cU n d) 6 [b8 255]) 7 [b8 255])) ++ zrep (pad : Int).toNat [b8 0] = bys (bldE true false ++ H ++ (udpH (kport n) 80 (8 + d.length) 65535 ++ d) ++ List.replicate pad 0) :=
    bysApp (bysTake2 (bysApp (bysTake2 (bysApp kE (bys_full _)) (by simp [bldE] <;> omega)) (bysTake2 kC (by simp [udpH, tcpH] <;> omega))) (by simp [bldE, udpH, tcpH] <;> omega)) (by rw [show (pad : Int).toNat = pad by omega]; exact zrep_byte pad)
  have hbc : bldC true true false n fl d = 65535 := by
    unfold bldC
    rw [if_neg (by simp), if_pos ⟨rfl, hc⟩]
  have hG : bldG true true false n fl d = (udpH (kport n) 80 (8 + d.length) 65535 ++ d) := by
    unfold bldG; rw [hbc]; rfl
  have hF : bldF true true false false n fl d pad = bldE true false ++ H ++ (udpH (kport n) 80 (8 + d.length) 65535 ++ d) ++ List.replicate pad 0 := by
    unfold bldF; rw [hG, hH]
  have kP : [b8 10, b8 (p.toNat : Int), b8 (q.toNat : Int), b8 (r.toNat : Int), b8 0, b8 0, b8 0, b8 0, b8 0, b8 0, b8 0, b8 0, b8 0, b8 0, b8 0, b8 0, b8 192, b8 168, b8 0, b8 1, b8 0, b8 0, b8 0, b8 0, b8 0, b8 0, b8 0, b8 0, b8 0, b8 0, b8 0, b8 0, b8 0, b8 0, b8 (IntKind.u8.wrap (((((8 + d.length) : Nat) : Int)).fdiv 256)), b8 (IntKind.u8.wrap (((8 + d.length) : Nat) : Int)), b8 0, b8 0, b8 0, b8 (intV (some (b8 17)))] = bys (pseudoL (prt true) ((hdn true + d.length : Nat) : Int) (kSrc true n) (kDst true)) := by
    unfold pseudoL
    rw [hA, hB]
    simp only [b8, wrapU8_byte, fdiv256]
    rw [if_pos (by rw [kSrc_B]; rfl), bigR8_4]
    have e1 : ((8 + d.length : Nat) : Int).fdiv 1 = ((8 + d.length : Nat) : Int) := by rw [Int.fdiv_eq_ediv_of_nonneg _ (by omega), Int.ediv_one]
    have e2 : ((hdn true + d.length : Nat) : Int) = ((8 + d.length : Nat) : Int) := rfl
    rw [e2, e1, fdiv256]
    have e3 : u8i (((8 + d.length : Nat) : Int).fdiv 16777216) = 0 := by rw [Int.fdiv_eq_ediv_of_nonneg _ (by omega), show ((8 + d.length : Nat) : Int) / 16777216 = 0 by omega]; rfl
    have e4 : u8i (((8 + d.length : Nat) : Int).fdiv 65536) = 0 := by rw [Int.fdiv_eq_ediv_of_nonneg _ (by omega), show ((8 + d.length : Nat) : Int) / 65536 = 0 by omega]; rfl
    rw [e3, e4]
    rfl
  rw [hF]
  refine ⟨hBuild6ZF8 n (bldS true true n fl d) (pad : Int) p q r fl d H, Runs.ofT0 (tBuildOk [10, p, q, r, 0, 0, 0, 0, 0, 0, 0, 0, 0, 0, 0, 0] [192, 168, 0, 1, 0, 0, 0, 0, 0, 0, 0, 0, 0, 0, 0, 0] H (bldS true true n fl d)) (F := 100) (n := 4) (pr := [(52, .bool false), (56, .bool false), (60, .bool false), (135, .bool true)]) ?_, _, congrArg some (congrArg (fun z => ABlk.cells z 1 Md.own _) kF)⟩
  refine (nfBuild6ZF n (bldS true true n fl d) (pad : Int) p q r fl d H _).trans ?_
  try rw [kC]
  try rw [kS]
  try rw [kE]
  refine (if_pos (wS)).trans ?_
  iterate 3 (refine (if_pos (decide_eq_false (by omega))).trans ?_)
  iterate 3 (refine (if_pos (by first | exact True.intro | rfl | omega | (simp [udpH, tcpH, bldE, hHl]; done) | (simp [udpH, tcpH, bldE, hHl]; omega))).trans ?_)
  refine (if_pos (cdec_true.2 (sayBytes wS hA rfl))).trans ?_
  refine (if_pos (cdec_true.2 (sayBytes wD hB rfl))).trans ?_
  iterate 3 (refine (if_pos (by first | exact True.intro | rfl | omega | (simp [udpH, tcpH, bldE, hHl]; done) | (simp [udpH, tcpH, bldE, hHl]; omega))).trans ?_)
  refine (if_pos (cdec_true.2 (sayRSum (l := (pseudoL (prt true) ((hdn true + d.length : Nat) : Int) (kSrc true n) (kDst true)) ++ (udpH (kport n) 80 (8 + d.length) 0 ++ d)) (bOk_row rfl (bysApp kP (bysTake2 kS (by simp [udpH, tcpH] <;> omega))) (by rw [List.length_append, ← bys_length (pseudoL (prt true) ((hdn true + d.length : Nat) : Int) (kSrc true n) (kDst true)), ← kP]; simp [udpH, tcpH] <;> omega)) (by simp <;> omega) rfl))).trans ?_
  refine (if_pos (by rw [f5]; simp; exact hc)).trans ?_
  iterate 2 (refine (if_pos (by first | exact True.intro | rfl | omega | (simp [udpH, tcpH, bldE, hHl]; done) | (simp [udpH, tcpH, bldE, hHl]; omega))).trans ?_)
  refine (if_pos (cdec_true.2 (say6Mk wS wD (by decide) ⟨by rw [kSrc_B]; rfl, by rw [kDst_B]; rfl, by rw [hdnE]; omega, by rw [hdnE]; omega⟩ hH rfl))).trans ?_
  iterate 11 (refine (if_pos (by first | exact True.intro | rfl | omega | (simp [udpH, tcpH, bldE, hHl]; done) | (simp [udpH, tcpH, bldE, hHl]; omega))).trans ?_)
  rfl

theorem runBuild6ZT (n : Int) (pad : Nat) (p q r fl : UInt8) (d : List UInt8) (hd : d.length ≤ 2000) (hpad : pad ≤ 100) (hp : kb1 n = p.toNat) (hq : kb2 n = q.toNat) (hr : kb3 n = r.toNat) (H : List UInt8) (hH : (bldH true true n ((hdn true + d.length : Nat) : Int)) = H) (hc : 65535 - (bldS true true n fl d) = 0) :
    ∃ h1, Runs Try.prog 8 [.agg (keyV true true n), .int .u8 (fl.toNat : Int), slB 0 d, .bool true, .bool false, .int .i64 (pad : Int)] [farB d] (.sl (some (18, 0)) (18 + H.length + (8 + d.length) + (pad : Int).toNat) 0 false) h1 ∧
      ∃ par, h1[18]? = some (.cells (bys (bldF true true true false n fl d pad)) 1 .own par) := by
  have wS : adrWf (kSrc true n) = true := by rw [kSrc_B]; exact adrB_wf rfl
  have wD : adrWf (kDst true) = true := by rw [kDst_B]; exact adrB_wf rfl
  have hA : adrBytes (kSrc true n) = [10, p, q, r, 0, 0, 0, 0, 0, 0, 0, 0, 0, 0, 0, 0] := by
    rw [kSrc_B, adrB_T]; unfold kSrcB; rw [hp, hq, hr]; simp
  have hB : adrBytes (kDst true) = [192, 168, 0, 1, 0, 0, 0, 0, 0, 0, 0, 0, 0, 0, 0, 0] := by rw [kDst_B, adrB_T]; rfl
  have hHl : H.length = 40 := by rw [← hH, bldH_length _ _ _ _ (by unfold hdn; split <;> omega)]; rfl
  have hsr := bldS_range true true n fl d
  have hdnE : hdn true = 8 := rfl
  have f5 : IntKind.i64.wrap (65535 - (bldS true true n fl d)) = 65535 - (bldS true true n fl d) := wrapI64 (by omega)
  have kS : (cU n d) = bys (udpH (kport n) 80 (8 + d.length) 0 ++ d) := cU_eq n d hd
  have kE : cE true true = bys (bldE true true) := cE_eq _ _
  have kC : (putCells (putCells (cU n d) 6 [b8 255]) 7 [b8 255]) = bys (udpH (kport n) 80 (8 + d.length) 65535 ++ d) := by
    rw [put2 (v := 65535) kS (by simp [udpH, tcpH] <;> omega) (by decide) (by decide), udpH_put (by omega)]
  have kF : List.take ((18 + H.length + (8 + d.length)) * 1) (List.take ((18 + H.length) * 1) (cE true true ++ List.take (H.length * 1) (bys H)) ++ List.take ((8 + d.length) * 1) (putCells (putCells (cU n d) 6 [b8 255]) 7 [b8 255])) ++ zrep (pad : Int).toNat [b8 0] = bys (bldE true true ++ H ++ (udpH (kport n) 80 (8 + d.length) 65535 ++ d) ++ List.replicate pad 0) :=
    bysApp (bysTake2 (bysApp (bysTake2 (bysApp kE (bys_full _)) (by simp [bldE] <;> omega)) (bysTake2 kC (by simp [udpH, tcpH] <;> omega))) (by simp [bldE, udpH, tcpH] <;> omega)) (by rw [show (pad : Int).toNat = pad by omega]; exact zrep_byte pad)
  have hbc : bldC true true false n fl d = 65535 := by
    unfold bldC
    rw [if_neg (by simp), if_pos ⟨rfl, hc⟩]
  have hG : bldG true true false n fl d = (udpH (kport n) 80 (8 + d.length) 65535 ++ d) := by
    unfold bldG; rw [hbc]; rfl
  have hF : bldF true true true false n fl d pad = bldE true true ++ H ++ (udpH (kport n) 80 (8 + d.length) 65535 ++ d) ++ List.replicate pad 0 := by
    unfold bldF; rw [hG, hH]
  have kP : [b8 10, b8 (p.toNat : Int), b8 (q.toNat : Int), b8 (r.toNat : Int), b8 0, b8 0, b8 0, b8 0, b8 0, b8 0, b8 0, b8 0, b8 0, b8 0, b8 0, b8 0, b8 192, b8 168, b8 0, b8 1, b8 0, b8 0, b8 0, b8 0, b8 0, b8 0, b8 0, b8 0, b8 0, b8 0, b8 0, b8 0, b8 0, b8 0, b8 (IntKind.u8.wrap (((((8 + d.length) : Nat) : Int)).fdiv 256)), b8 (IntKind.u8.wrap (((8 + d.length) : Nat) : Int)), b8 0, b8 0, b8 0, b8 (intV (some (b8 17)))] = bys (pseudoL (prt true) ((hdn true + d.length : Nat) : Int) (kSrc true n) (kDst true)) := by
    unfold pseudoL
    rw [hA, hB]
    simp only [b8, wrapU8_byte, fdiv256]
    rw [if_pos (by rw [kSrc_B]; rfl), bigR8_4]
    have e1 : ((8 + d.length : Nat) : Int).fdiv 1 = ((8 + d.length : Nat) : Int) := by rw [Int.fdiv_eq_ediv_of_nonneg _ (by omega), Int.ediv_one]
    have e2 : ((hdn true + d.length : Nat) : Int) = ((8 + d.length : Nat) : Int) := rfl
    rw [e2, e1, fdiv256]
    have e3 : u8i (((8 + d.length : Nat) : Int).fdiv 16777216) = 0 := by rw [Int.fdiv_eq_ediv_of_nonneg _ (by omega), show ((8 + d.length : Nat) : Int) / 16777216 = 0 by omega]; rfl
    have e4 : u8i (((8 + d.length : Nat) : Int).fdiv 65536) = 0 := by rw [Int.fdiv_eq_ediv_of_nonneg _ (by omega), show ((8 + d.length : Nat) : Int) / 65536 = 0 by omega]; rfl
    rw [e3, e4]
    rfl
  rw [hF]
  refine ⟨hBuild6ZT8 n (bldS true true n fl d) (pad : Int) p q r fl d H, Runs.ofT0 (tBuildOk [10, p, q, r, 0, 0, 0, 0, 0, 0, 0, 0, 0, 0, 0, 0] [192, 168, 0, 1, 0, 0, 0, 0, 0, 0, 0, 0, 0, 0, 0, 0] H (bldS true true n fl d)) (F := 100) (n := 4) (pr := [(52, .bool false), (56, .bool false), (60, .bool false), (135, .bool true)]) ?_, _, congrArg some (congrArg (fun z => ABlk.cells z 1 Md.own _) kF)⟩
  refine (nfBuild6ZT n (bldS true true n fl d) (pad : Int) p q r fl d H _).trans ?_
  try rw [kC]
  try rw [kS]
  try rw [kE]
  refine (if_pos (wS)).trans ?_
  iterate 3 (refine (if_pos (decide_eq_false (by omega))).trans ?_)
  iterate 3 (refine (if_pos (by first | exact True.intro | rfl | omega | (simp [udpH, tcpH, bldE, hHl]; done) | (simp [udpH, tcpH, bldE, hHl]; omega))).trans ?_)
  refine (if_pos (cdec_true.2 (sayBytes wS hA rfl))).trans ?_
  refine (if_pos (cdec_true.2 (sayBytes wD hB rfl))).trans ?_
  iterate 3 (refine (if_pos (by first | exact True.intro | rfl | omega | (simp [udpH, tcpH, bldE, hHl]; done) | (simp [udpH, tcpH, bldE, hHl]; omega))).trans ?_)
  refine (if_pos (cdec_true.2 (sayRSum (l := (pseudoL (prt true) ((hdn true + d.length : Nat) : Int) (kSrc true n) (kDst true)) ++ (udpH (kport n) 80 (8 + d.length) 0 ++ d)) (bOk_row rfl (bysApp kP (bysTake2 kS (by simp [udpH, tcpH] <;> omega))) (by rw [List.length_append, ← bys_length (pseudoL (prt true) ((hdn true + d.length : Nat) : Int) (kSrc true n) (kDst true)), ← kP]; simp [udpH, tcpH] <;> omega)) (by simp <;> omega) rfl))).trans ?_
  refine (if_pos (by rw [f5]; simp; exact hc)).trans ?_
  iterate 2 (refine (if_pos (by first | exact True.intro | rfl | omega | (simp [udpH, tcpH, bldE, hHl]; done) | (simp [udpH, tcpH, bldE, hHl]; omega))).trans ?_)
  refine (if_pos (cdec_true.2 (say6Mk wS wD (by decide) ⟨by rw [kSrc_B]; rfl, by rw [kDst_B]; rfl, by rw [hdnE]; omega, by rw [hdnE]; omega⟩ hH rfl))).trans ?_
  iterate 11 (refine (if_pos (by first | exact True.intro | rfl | omega | (simp [udpH, tcpH, bldE, hHl]; done) | (simp [udpH, tcpH, bldE, hHl]; omega))).trans ?_)
  rfl

theorem runBuild6BF (n : Int) (pad : Nat) (p q r fl : UInt8) (d : List UInt8) (hd : d.length ≤ 2000) (hpad : pad ≤ 100) (hp : kb1 n = p.toNat) (hq : kb2 n = q.toNat) (hr : kb3 n = r.toNat) (H : List UInt8) (hH : (bldH true true n ((hdn true + d.length : Nat) : Int)) = H) :
    ∃ h1, Runs Try.prog 8 [.agg (keyV true true n), .int .u8 (fl.toNat : Int), slB 0 d, .bool false, .bool true, .int .i64 (pad : Int)] [farB d] (.sl (some (15, 0)) (14 + H.length + (8 + d.length) + (pad : Int).toNat) 0 false) h1 ∧
      ∃ par, h1[15]? = some (.cells (bys (bldF true true false true n fl d pad)) 1 .own par) := by
  have wS : adrWf (kSrc true n) = true := by rw [kSrc_B]; exact adrB_wf rfl
  have wD : adrWf (kDst true) = true := by rw [kDst_B]; exact adrB_wf rfl
  have hA : adrBytes (kSrc true n) = [10, p, q, r, 0, 0, 0, 0, 0, 0, 0, 0, 0, 0, 0, 0] := by
    rw [kSrc_B, adrB_T]; unfold kSrcB; rw [hp, hq, hr]; simp
  have hB : adrBytes (kDst true) = [192, 168, 0, 1, 0, 0, 0, 0, 0, 0, 0, 0, 0, 0, 0, 0] := by rw [kDst_B, adrB_T]; rfl
  have hHl : H.length = 40 := by rw [← hH, bldH_length _ _ _ _ (by unfold hdn; split <;> omega)]; rfl
  have hsr := bldS_range true true n fl d
  have hdnE : hdn true = 8 := rfl
  have f5 : IntKind.i64.wrap (65535 - (bldS true true n fl d)) = 65535 - (bldS true true n fl d) := wrapI64 (by omega)
  have kS : (cU n d) = bys (udpH (kport n) 80 (8 + d.length) 0 ++ d) := cU_eq n d hd
  have kE : cE true false = bys (bldE true false) := cE_eq _ _
  have kC : (cU n d) = bys (udpH (kport n) 80 (8 + d.length) 0 ++ d) := kS
  have kF : List.take ((14 + H.length + (8 + d.length)) * 1) (List.take ((14 + H.length) * 1) (cE true false ++ List.take (H.length * 1) (bys H)) ++ List.take ((8 + d.length) * 1) (cU n d)) ++ zrep (pad : Int).toNat [b8 0] = bys (bldE true false ++ H ++ (udpH (kport n) 80 (8 + d.length) 0 ++ d) ++ List.replicate pad 0) :=
    bysApp (bysTake2 (bysApp (bysTake2 (bysApp kE (bys_full _)) (by simp [bldE] <;> omega)) (bysTake2 kC (by simp [udpH, tcpH] <;> omega))) (by simp [bldE, udpH, tcpH] <;> omega)) (by rw [show (pad : Int).toNat = pad by omega]; exact zrep_byte pad)
  have hbc : bldC true true true n fl d = 0 := by
    unfold bldC
    rw [if_pos ⟨rfl, rfl⟩]
  have hG : bldG true true true n fl d = (udpH (kport n) 80 (8 + d.length) 0 ++ d) := by
    unfold bldG; rw [hbc]; rfl
  have hF : bldF true true false true n fl d pad = bldE true false ++ H ++ (udpH (kport n) 80 (8 + d.length) 0 ++ d) ++ List.replicate pad 0 := by
    unfold bldF; rw [hG, hH]
  rw [hF]
  refine ⟨hBuild6BF6 n (bldS true true n fl d) (pad : Int) p q r fl d H, Runs.ofT0 (tBuildOk [10, p, q, r, 0, 0, 0, 0, 0, 0, 0, 0, 0, 0, 0, 0] [192, 168, 0, 1, 0, 0, 0, 0, 0, 0, 0, 0, 0, 0, 0, 0] H (bldS true true n fl d)) (F := 100) (n := 4) (pr := [(52, .bool false), (56, .bool false), (60, .bool false)]) ?_, _, congrArg some (congrArg (fun z => ABlk.cells z 1 Md.own _) kF)⟩
  refine (nfBuild6BF n (bldS true true n fl d) (pad : Int) p q r fl d H _).trans ?_
  try rw [kC]
  try rw [kS]
  try rw [kE]
  refine (if_pos (wS)).trans ?_
  iterate 3 (refine (if_pos (decide_eq_false (by omega))).trans ?_)
  iterate 3 (refine (if_pos (by first | exact True.intro | rfl | omega | (simp [udpH, tcpH, bldE, hHl]; done) | (simp [udpH, tcpH, bldE, hHl]; omega))).trans ?_)
  refine (if_pos (cdec_true.2 (sayBytes wS hA rfl))).trans ?_
  refine (if_pos (cdec_true.2 (sayBytes wD hB rfl))).trans ?_
  refine (if_pos (cdec_true.2 (say6Mk wS wD (by decide) ⟨by rw [kSrc_B]; rfl, by rw [kDst_B]; rfl, by rw [hdnE]; omega, by rw [hdnE]; omega⟩ hH rfl))).trans ?_
  iterate 11 (refine (if_pos (by first | exact True.intro | rfl | omega | (simp [udpH, tcpH, bldE, hHl]; done) | (simp [udpH, tcpH, bldE, hHl]; omega))).trans ?_)
  rfl

theorem runBuild6BT (n : Int) (pad : Nat) (p q r fl : UInt8) (d : List UInt8) (hd : d.length ≤ 2000) (hpad : pad ≤ 100) (hp : kb1 n = p.toNat) (hq : kb2 n = q.toNat) (hr : kb3 n = r.toNat) (H : List UInt8) (hH : (bldH true true n ((hdn true + d.length : Nat) : Int)) = H) :
    ∃ h1, Runs Try.prog 8 [.agg (keyV true true n), .int .u8 (fl.toNat : Int), slB 0 d, .bool true, .bool true, .int .i64 (pad : Int)] [farB d] (.sl (some (17, 0)) (18 + H.length + (8 + d.length) + (pad : Int).toNat) 0 false) h1 ∧
      ∃ par, h1[17]? = some (.cells (bys (bldF true true true true n fl d pad)) 1 .own par) := by
  have wS : adrWf (kSrc true n) = true := by rw [kSrc_B]; exact adrB_wf rfl
  have wD : adrWf (kDst true) = true := by rw [kDst_B]; exact adrB_wf rfl
  have hA : adrBytes (kSrc true n) = [10, p, q, r, 0, 0, 0, 0, 0, 0, 0, 0, 0, 0, 0, 0] := by
    rw [kSrc_B, adrB_T]; unfold kSrcB; rw [hp, hq, hr]; simp
  have hB : adrBytes (kDst true) = [192, 168, 0, 1, 0, 0, 0, 0, 0, 0, 0, 0, 0, 0, 0, 0] := by rw [kDst_B, adrB_T]; rfl
  have hHl : H.length = 40 := by rw [← hH, bldH_length _ _ _ _ (by unfold hdn; split <;> omega)]; rfl
  have hsr := bldS_range true true n fl d
  have hdnE : hdn true = 8 := rfl
  have f5 : IntKind.i64.wrap (65535 - (bldS true true n fl d)) = 65535 - (bldS true true n fl d) := wrapI64 (by omega)
  have kS : (cU n d) = bys (udpH (kport n) 80 (8 + d.length) 0 ++ d) := cU_eq n d hd
  have kE : cE true true = bys (bldE true true) := cE_eq _ _
  have kC : (cU n d) = bys (udpH (kport n) 80 (8 + d.length) 0 ++ d) := kS
  have kF : List.take ((18 + H.length + (8 + d.length)) * 1) (List.take ((18 + H.length) * 1) (cE true true ++ List.take (H.length * 1) (bys H)) ++ List.take ((8 + d.length) * 1) (cU n d)) ++ zrep (pad : Int).toNat [b8 0] = bys (bldE true true ++ H ++ (udpH (kport n) 80 (8 + d.length) 0 ++ d) ++ List.replicate pad 0) :=
    bysApp (bysTake2 (bysApp (bysTake2 (bysApp kE (bys_full _)) (by simp [bldE] <;> omega)) (bysTake2 kC (by simp [udpH, tcpH] <;> omega))) (by simp [bldE, udpH, tcpH] <;> omega)) (by rw [show (pad : Int).toNat = pad by omega]; exact zrep_byte pad)
  have hbc : bldC true true true n fl d = 0 := by
    unfold bldC
    rw [if_pos ⟨rfl, rfl⟩]
  have hG : bldG true true true n fl d = (udpH (kport n) 80 (8 + d.length) 0 ++ d) := by
    unfold bldG; rw [hbc]; rfl
  have hF : bldF true true true true n fl d pad = bldE true true ++ H ++ (udpH (kport n) 80 (8 + d.length) 0 ++ d) ++ List.replicate pad 0 := by
    unfold bldF; rw [hG, hH]
  rw [hF]
  refine ⟨hBuild6BT6 n (bldS true true n fl d) (pad : Int) p q r fl d H, Runs.ofT0 (tBuildOk [10, p, q, r, 0, 0, 0, 0, 0, 0, 0, 0, 0, 0, 0, 0] [192, 168, 0, 1, 0, 0, 0, 0, 0, 0, 0, 0, 0, 0, 0, 0] H (bldS true true n fl d)) (F := 100) (n := 4) (pr := [(52, .bool false), (56, .bool false), (60, .bool false)]) ?_, _, congrArg some (congrArg (fun z => ABlk.cells z 1 Md.own _) kF)⟩
  refine (nfBuild6BT n (bldS true true n fl d) (pad : Int) p q r fl d H _).trans ?_
  try rw [kC]
  try rw [kS]
  try rw [kE]
  refine (if_pos (wS)).trans ?_
  iterate 3 (refine (if_pos (decide_eq_false (by omega))).trans ?_)
  iterate 3 (refine (if_pos (by first | exact True.intro | rfl | omega | (simp [udpH, tcpH, bldE, hHl]; done) | (simp [udpH, tcpH, bldE, hHl]; omega))).trans ?_)
  refine (if_pos (cdec_true.2 (sayBytes wS hA rfl))).trans ?_
  refine (if_pos (cdec_true.2 (sayBytes wD hB rfl))).trans ?_
  refine (if_pos (cdec_true.2 (say6Mk wS wD (by decide) ⟨by rw [kSrc_B]; rfl, by rw [kDst_B]; rfl, by rw [hdnE]; omega, by rw [hdnE]; omega⟩ hH rfl))).trans ?_
  iterate 11 (refine (if_pos (by first | exact True.intro | rfl | omega | (simp [udpH, tcpH, bldE, hHl]; done) | (simp [udpH, tcpH, bldE, hHl]; omega))).trans ?_)
  rfl

inductive BuildR : List AV → AHeap → AV → AHeap → Prop
  | mk (v u tag bare : Bool) (n : Int) (fl : UInt8) (d : List UInt8) (pad : Nat) (h : AHeap) (a : AV) (k : Nat) (g : bOk h a = true ∧ bOf h a = d) (hd : d.length ≤ 2000) (hp : pad ≤ 100) (hk : h.length = k) :
    BuildR [.agg (keyV v u n), .int .u8 (fl.toNat : Int), a, .bool tag, .bool bare, .int .i64 (pad : Int)] h (slB k (bldF v u tag bare n fl d pad)) [ownB (bldF v u tag bare n fl d pad)]
theorem bldF_length (v u tag bare : Bool) (n : Int) (fl : UInt8) (d : List UInt8) (pad : Nat) (hd : d.length ≤ 2000) : (bldF v u tag bare n fl d pad).length = (if tag = true then 18 else 14) + (bldH v u n ((hdn u + d.length : Nat) : Int)).length + (hdn u + d.length) + pad := by
  unfold bldF bldG
  rw [List.length_append, List.length_append, List.length_append, segB_length, List.length_replicate]
  cases v <;> cases tag <;> rfl
theorem buildKS (n : Int) : kb1 n = ((u8i (kb1 n)).toNat : Int) ∧ kb2 n = ((u8i (kb2 n)).toNat : Int) ∧ kb3 n = ((u8i (kb3 n)).toNat : Int) := ⟨(u8i_val (kb1_range n)).symm, (u8i_val (kb2_range n)).symm, (u8i_val (kb3_range n)).symm⟩

theorem build_false (v u bare : Bool) (n : Int) (fl : UInt8) (d : List UInt8) (pad q : Nat) (hd : d.length ≤ 2000) (hp : pad ≤ 100) :
    ∃ v1 h1', Runs Try.prog 8 [.agg (keyV v u n), .int .u8 (fl.toNat : Int), slB 0 d, .bool false, .bool bare, .int .i64 (pad : Int)] [farB d] v1 h1' ∧ ∃ ks, Den h1' [farB d].length q ks v1 (slB q (bldF v u false bare n fl d pad)) [ownB (bldF v u false bare n fl d pad)] ∧ KsOk ks := by
  have hlen := bldF_length v u false bare n fl d pad hd
  obtain ⟨k1, k2, k3⟩ := buildKS n
  have fin : ∀ {blk m : Nat} {h1 : AHeap}, Runs Try.prog 8 [.agg (keyV v u n), .int .u8 (fl.toNat : Int), slB 0 d, .bool false, .bool bare, .int .i64 (pad : Int)] [farB d] (.sl (some (blk, 0)) m 0 false) h1 ∧ (∃ par, h1[blk]? = some (.cells (bys (bldF v u false bare n fl d pad)) 1 .own par)) → 1 ≤ blk → m = (bldF v u false bare n fl d pad).length →
      ∃ v1 h1', Runs Try.prog 8 [.agg (keyV v u n), .int .u8 (fl.toNat : Int), slB 0 d, .bool false, .bool bare, .int .i64 (pad : Int)] [farB d] v1 h1' ∧ ∃ ks, Den h1' [farB d].length q ks v1 (slB q (bldF v u false bare n fl d pad)) [ownB (bldF v u false bare n fl d pad)] ∧ KsOk ks := by
    rintro blk m h1 ⟨hx, par, hc⟩ hb hm
    exact ⟨_, h1, hx, [some blk], denB (by simpa using hb) hc rfl hm, ksOk1 _⟩
  cases v
  · cases u
    · by_cases hc : 65535 - bldS false false n fl d = 0
      · obtain ⟨h1, hx⟩ := runBuild4DF n pad _ _ _ fl d bare hd hp k1 k2 k3 _ rfl hc
        exact fin hx (by decide) (by rw [hlen]; simp [hdn])
      · obtain ⟨h1, hx⟩ := runBuild4AF n pad _ _ _ fl d bare hd hp k1 k2 k3 _ rfl hc
        exact fin hx (by decide) (by rw [hlen]; simp [hdn])
    · cases bare
      · by_cases hc : 65535 - bldS false true n fl d = 0
        · obtain ⟨h1, hx⟩ := runBuild4ZF n pad _ _ _ fl d hd hp k1 k2 k3 _ rfl hc
          exact fin hx (by decide) (by rw [hlen]; simp [hdn])
        · obtain ⟨h1, hx⟩ := runBuild4UF n pad _ _ _ fl d hd hp k1 k2 k3 _ rfl hc
          exact fin hx (by decide) (by rw [hlen]; simp [hdn])
      · obtain ⟨h1, hx⟩ := runBuild4BF n pad _ _ _ fl d hd hp k1 k2 k3 _ rfl
        exact fin hx (by decide) (by rw [hlen]; simp [hdn])
  · cases u
    · by_cases hc : 65535 - bldS true false n fl d = 0
      · obtain ⟨h1, hx⟩ := runBuild6DF n pad _ _ _ fl d bare hd hp k1 k2 k3 _ rfl hc
        exact fin hx (by decide) (by rw [hlen]; simp [hdn])
      · obtain ⟨h1, hx⟩ := runBuild6AF n pad _ _ _ fl d bare hd hp k1 k2 k3 _ rfl hc
        exact fin hx (by decide) (by rw [hlen]; simp [hdn])
    · cases bare
      · by_cases hc : 65535 - bldS true true n fl d = 0
        · obtain ⟨h1, hx⟩ := runBuild6ZF n pad _ _ _ fl d hd hp k1 k2 k3 _ rfl hc
          exact fin hx (by decide) (by rw [hlen]; simp [hdn])
        · obtain ⟨h1, hx⟩ := runBuild6UF n pad _ _ _ fl d hd hp k1 k2 k3 _ rfl hc
          exact fin hx (by decide) (by rw [hlen]; simp [hdn])
      · obtain ⟨h1, hx⟩ := runBuild6BF n pad _ _ _ fl d hd hp k1 k2 k3 _ rfl
        exact fin hx (by decide) (by rw [hlen]; simp [hdn])

theorem build_true (v u bare : Bool) (n : Int) (fl : UInt8) (d : List UInt8) (pad q : Nat) (hd : d.length ≤ 2000) (hp : pad ≤ 100) :
    ∃ v1 h1', Runs Try.prog 8 [.agg (keyV v u n), .int .u8 (fl.toNat : Int), slB 0 d, .bool true, .bool bare, .int .i64 (pad : Int)] [farB d] v1 h1' ∧ ∃ ks, Den h1' [farB d].length q ks v1 (slB q (bldF v u true bare n fl d pad)) [ownB (bldF v u true bare n fl d pad)] ∧ KsOk ks := by
  have hlen := bldF_length v u true bare n fl d pad hd
  obtain ⟨k1, k2, k3⟩ := buildKS n
  have fin : ∀ {blk m : Nat} {h1 : AHeap}, Runs Try.prog 8 [.agg (keyV v u n), .int .u8 (fl.toNat : Int), slB 0 d, .bool true, .bool bare, .int .i64 (pad : Int)] [farB d] (.sl (some (blk, 0)) m 0 false) h1 ∧ (∃ par, h1[blk]? = some (.cells (bys (bldF v u true bare n fl d pad)) 1 .own par)) → 1 ≤ blk → m = (bldF v u true bare n fl d pad).length →
      ∃ v1 h1', Runs Try.prog 8 [.agg (keyV v u n), .int .u8 (fl.toNat : Int), slB 0 d, .bool true, .bool bare, .int .i64 (pad : Int)] [farB d] v1 h1' ∧ ∃ ks, Den h1' [farB d].length q ks v1 (slB q (bldF v u true bare n fl d pad)) [ownB (bldF v u true bare n fl d pad)] ∧ KsOk ks := by
    rintro blk m h1 ⟨hx, par, hc⟩ hb hm
    exact ⟨_, h1, hx, [some blk], denB (by simpa using hb) hc rfl hm, ksOk1 _⟩
  cases v
  · cases u
    · by_cases hc : 65535 - bldS false false n fl d = 0
      · obtain ⟨h1, hx⟩ := runBuild4DT n pad _ _ _ fl d bare hd hp k1 k2 k3 _ rfl hc
        exact fin hx (by decide) (by rw [hlen]; simp [hdn])
      · obtain ⟨h1, hx⟩ := runBuild4AT n pad _ _ _ fl d bare hd hp k1 k2 k3 _ rfl hc
        exact fin hx (by decide) (by rw [hlen]; simp [hdn])
    · cases bare
      · by_cases hc : 65535 - bldS false true n fl d = 0
        · obtain ⟨h1, hx⟩ := runBuild4ZT n pad _ _ _ fl d hd hp k1 k2 k3 _ rfl hc
          exact fin hx (by decide) (by rw [hlen]; simp [hdn])
        · obtain ⟨h1, hx⟩ := runBuild4UT n pad _ _ _ fl d hd hp k1 k2 k3 _ rfl hc
          exact fin hx (by decide) (by rw [hlen]; simp [hdn])
      · obtain ⟨h1, hx⟩ := runBuild4BT n pad _ _ _ fl d hd hp k1 k2 k3 _ rfl
        exact fin hx (by decide) (by rw [hlen]; simp [hdn])
  · cases u
    · by_cases hc : 65535 - bldS true false n fl d = 0
      · obtain ⟨h1, hx⟩ := runBuild6DT n pad _ _ _ fl d bare hd hp k1 k2 k3 _ rfl hc
        exact fin hx (by decide) (by rw [hlen]; simp [hdn])
      · obtain ⟨h1, hx⟩ := runBuild6AT n pad _ _ _ fl d bare hd hp k1 k2 k3 _ rfl hc
        exact fin hx (by decide) (by rw [hlen]; simp [hdn])
    · cases bare
      · by_cases hc : 65535 - bldS true true n fl d = 0
        · obtain ⟨h1, hx⟩ := runBuild6ZT n pad _ _ _ fl d hd hp k1 k2 k3 _ rfl hc
          exact fin hx (by decide) (by rw [hlen]; simp [hdn])
        · obtain ⟨h1, hx⟩ := runBuild6UT n pad _ _ _ fl d hd hp k1 k2 k3 _ rfl hc
          exact fin hx (by decide) (by rw [hlen]; simp [hdn])
      · obtain ⟨h1, hx⟩ := runBuild6BT n pad _ _ _ fl d hd hp k1 k2 k3 _ rfl
        exact fin hx (by decide) (by rw [hlen]; simp [hdn])

theorem sBuild (l : List (Nat × AV × AHeap)) : SoundE Try.prog 8 (entF (eRel BuildR l)) := by
  refine relR_sound (fun args h v new hR => ?_) l
  cases hR with
  | mk v u tag bare n fl d pad _ a k g hd hp hk =>
  subst hk
  have hf : AV.free (.agg (keyV v u n)) = true := by cases v <;> rfl
  obtain ⟨gb, rfl⟩ := g
  refine ⟨[.agg (keyV v u n), .int .u8 (fl.toNat : Int), slB 0 (bOf h a), .bool tag, .bool bare, .int .i64 (pad : Int)], [farB (bOf h a)], .cons _ _ _ _ _ _ _ (.flat _ _ hf) (.cons _ _ _ _ _ _ _ (.flat _ _ rfl) (.cons _ _ _ _ _ _ _ (bOk_canon gb 0) (.cons _ _ _ _ _ _ _ (.flat _ _ rfl) (.cons _ _ _ _ _ _ _ (.flat _ _ rfl) (.cons _ _ _ _ _ _ _ (.flat _ _ rfl) (.nil _)))))), ?_⟩
  cases tag
  · exact build_false v u bare n fl _ pad _ hd hp
  · exact build_true v u bare n fl _ pad _ hd hp

end Go.Proofs.Ytjkkhbeidhpghaa.L
