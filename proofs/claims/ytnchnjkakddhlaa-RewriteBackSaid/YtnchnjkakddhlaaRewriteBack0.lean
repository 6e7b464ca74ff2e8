/- RewriteBack's run. -/
import Derived.Test.YtnchnjkakddhlaaRewriteBackN
set_option autoImplicit false
set_option maxRecDepth 100000
set_option linter.unusedVariables false
set_option linter.unusedSimpArgs false
namespace Go.Proofs.Ytnchnjkakddhlaa.L
open Go Go.Abs

theorem zoo (v u tag bare : Bool) (n : Int) (fl : UInt8) (d : List UInt8) (pad : Nat) (hd : d.length ≤ 2000) (hp : pad ≤ 100) :
 ∃ C0, ze9 v u tag bare n fl d pad = frB v tag u C0 (zek v u bare n fl d) (zat n) 80 fl (zb8 n) zbA d (List.replicate pad 0) ∧ FrmOk v tag u C0 (zek v u bare n fl d) (zat n) 80 fl (zb8 n) zbA d (List.replicate pad 0) := by
 obtain ⟨C0, h1, h2, h3⟩ := zuP v u tag bare n fl d pad hd
 exact ⟨C0, h2, ⟨okS v n, okD v, h1, zdk v u bare n fl d, znL n, by decide, hd, by simpa using hp, h3⟩⟩
theorem zir {v tag u : Bool} {C Cs sp dp C' : Int} {dp' : Int} {fl : UInt8} {X Y Y' d pd : List UInt8} (H : FrmOk v tag u C Cs sp dp fl X Y d pd) (H' : FrmOk v tag u C' (pC u Cs dp dp' (adW v Y) (adW v Y')) sp dp' fl X Y' d pd)
 (h : (u = true ∧ Cs = 0) ∨ (¬ (u = true ∧ Cs = 0) ∧ (gK v u X Y (zbU u sp dp fl 0 d) + Cs) % 65535 = 0)) : zij (frB v tag u C' (pC u Cs dp dp' (adW v Y) (adW v Y')) sp dp' fl X Y' d pd) = true := by
 obtain ⟨h1, h2, h3⟩ := zfh H'
 obtain ⟨g1, g2, g3, g4, g5, g6, g7⟩ := zl2 H'
 have hd := H.hd
 unfold zij
 rw [decide_eq_true h1, g4, h2, g5, g6, Bool.true_and]
 rcases h with ⟨hu, h0⟩ | ⟨h0, hg⟩
 · rw [zhy H.hx.1 H'.hy.1 H'.hcs (by omega)]
   have e : pC u Cs dp dp' (adW v Y) (adW v Y') = 0 := by unfold pC; rw [if_pos ⟨hu, h0⟩]
   rw [e, decide_eq_true ⟨hu, rfl⟩, Bool.true_or]
 · have := (zxj (v := v) (u := u) (sp := sp) (sp' := sp) (dp := dp) (dp' := dp') (fl := fl) (X := X) (Y := Y) (Y' := Y') (d := d) (C := Cs) H.hx.1 H.hy.1 H'.hy.1 (by omega) H.hsp H.hsp H.hdp H'.hdp H.hcs h0 hg).2
   rw [this]
   exact decide_eq_true (by omega)

theorem zzN {v u : Bool} {X Y Y' d : List UInt8} {sp dp dp' C : Int} {fl : UInt8} (hX : X.length = 16) (hY : Y.length = 16) (hY' : Y'.length = 16) (hs : 0 ≤ sp ∧ sp < 65536) (g : 0 ≤ dp ∧ dp < 65536) (g' : 0 ≤ dp' ∧ dp' < 65536) (hC : 0 ≤ C ∧ C < 65536)
 (hz : ¬ (u = true ∧ C = 0)) (hg : (gK v u X Y (zbU u sp dp fl 0 d) + C) % 65535 = 0) : (gK v u X Y' (zbU u sp dp' fl 0 d) + pC u C dp dp' (adW v Y) (adW v Y')) % 65535 = 0 := by
 have hm := (zh8 (v := v) (u := u) (X := Y) (Y := Y') hY hY' hC g g' hz).1
 have k2 := zyE (v := v) (u := u) (X := X) (Y := Y) (X' := X) (Y' := Y') (d := d) (fl := fl) hX hY hX hY' hs hs g g'
 omega
theorem zkV {v : Bool} {C : Int} {Y Y' : List UInt8} (hY : Y.length = 16) (hY' : Y'.length = 16) (h : 0 ≤ C ∧ C < 65536) (hv : v = false) : (hC v C Y Y' - (C + zbi (Y.take 4) - zbi (Y'.take 4))) % 65535 = 0 := by
 subst hv
 have e : hC false C Y Y' = zhD C (Y.take 4) (Y'.take 4) := by
  unfold hC zaR
  rw [if_neg (by decide), if_pos (by simp [hY, hY'])]
 rw [e]
 exact ziq _ _ _ (by simp [hY, hY']) (by simp [hY]) h
theorem zy0 {B0 B1 B2 : ABlk} {Y Z : List UInt8} {V : List AV} {B6 : ABlk} {L : List AV} {A G q i n : Nat} (hA : A ≤ 100) (hG : G ≤ 200) (hV1 : V[1]? = some (.int .i64 (A : Int))) (hV2 : V[2]? = some (.int .i64 (G : Int))) (hi : i < n) (hn : n ≤ 1000000) (hL : L[i]? = some (.int .i64 (q : Int)))
 (hY : q < Y.length) (hZ : q < Z.length) (h1 : byt Y q % 255 = 0) (h2 : byt Z q % 255 = 0) (hq : q = A + 10 ∨ q = A + 11 ∨ q = G + 16 ∨ q = G + 17 ∨ q = G + 6 ∨ q = G + 7) :
 zcX Try.prog [] 100 4 [(115, .bool true), (177, .bool false)] noT RBL mRB (vRB Y Z n i) (hRB B0 B1 B2 Y Z V B6 L) = some (.norm, vRB Y Z n ((i + 1 : Nat) : Int), hRB B0 B1 B2 Y Z V B6 L) := by
 have e0 : 0 + (i : Int).toNat * 1 = i := by omega
 have e1 : 0 + (q : Int).toNat * 1 = q := by omega
 have e5 : IntKind.i64.wrap ((i : Int) + 1) = ((i + 1 : Nat) : Int) := by rw [zao (by omega)]; omega
 have y1 := zaS Y q
 have z1 := zaS Z q
 have t1 : (byt Y q).tmod 255 = 0 := by rw [Int.tmod_eq_emod_of_nonneg y1.1]; exact h1
 have t2 : (byt Z q).tmod 255 = 0 := by rw [Int.tmod_eq_emod_of_nonneg z1.1]; exact h2
 have b1 : zaI .u8 (bys Y)[q]? = true := by simpa using hY
 have b2 : zaI .u8 (bys Z)[q]? = true := by simpa using hZ
 have w10 : IntKind.i64.wrap ((A : Int) + 10) = (A : Int) + 10 := zao (by omega)
 have w11 : IntKind.i64.wrap ((A : Int) + 11) = (A : Int) + 11 := zao (by omega)
 have w16 : IntKind.i64.wrap ((G : Int) + 16) = (G : Int) + 16 := zao (by omega)
 have w17 : IntKind.i64.wrap ((G : Int) + 17) = (G : Int) + 17 := zao (by omega)
 have w6 : IntKind.i64.wrap ((G : Int) + 6) = (G : Int) + 6 := zao (by omega)
 have w7 : IntKind.i64.wrap ((G : Int) + 7) = (G : Int) + 7 := zao (by omega)
 have bY : zad (bys Y)[q]? = byt Y q := by simp
 have bZ : zad (bys Z)[q]? = byt Z q := by simp
 refine (zBm ..).trans ?_
 simp only [e0, e1, e5, hV1, hV2, hL, zbl, w10, w11, w16, w17, w6, w7, bY, bZ, t1, t2]
 refine (if_pos (by simp; omega)).trans ?_
 refine (if_pos (by omega)).trans ?_
 refine (if_pos rfl).trans ?_
 refine (if_pos (by omega)).trans ?_
 refine (if_pos b1).trans ?_
 refine (if_neg (by decide)).trans ?_
 refine (if_pos (by omega)).trans ?_
 refine (if_pos b2).trans ?_
 refine (if_neg (by decide)).trans ?_
 by_cases c1 : q = A + 10
 · refine (if_pos rfl).trans ?_
   exact if_neg (by simp; omega)
 refine (if_pos rfl).trans ?_
 refine (if_pos (by simp; omega)).trans ?_
 by_cases c2 : q = A + 11
 · refine (if_pos rfl).trans ?_
   exact if_neg (by simp; omega)
 refine (if_pos rfl).trans ?_
 refine (if_pos (by simp; omega)).trans ?_
 by_cases c3 : q = G + 16
 · refine (if_pos rfl).trans ?_
   exact if_neg (by simp; omega)
 refine (if_pos rfl).trans ?_
 refine (if_pos (by simp; omega)).trans ?_
 by_cases c4 : q = G + 17
 · refine (if_pos rfl).trans ?_
   exact if_neg (by simp; omega)
 refine (if_pos rfl).trans ?_
 refine (if_pos (by simp; omega)).trans ?_
 by_cases c5 : q = G + 6
 · refine (if_pos rfl).trans ?_
   exact if_neg (by simp; omega)
 refine (if_pos rfl).trans ?_
 refine (if_pos (by simp; omega)).trans ?_
 refine (if_pos rfl).trans ?_
 exact if_pos (by simp; omega)
theorem zBQ (v : Bool) (A G E p sp dp fl : Int) (X Y : List AV) : (zaO v A G E p X Y sp dp fl)[1]? = some (.int .i64 A) ∧ (zaO v A G E p X Y sp dp fl)[2]? = some (.int .i64 G) := ⟨rfl, rfl⟩
theorem zwh {B0 B1 B2 : ABlk} {V : List AV} {B6 : ABlk} {v u tag : Bool} {C C' Cs Cs' sp dp : Int} {fl : UInt8} {X Y d pd : List UInt8} (H : FrmOk v tag u C Cs sp dp fl X Y d pd) (H' : FrmOk v tag u C' Cs' sp dp fl X Y d pd) (hC : v = false → (C' - C) % 65535 = 0) (hCs : (Cs' - Cs) % 65535 = 0)
 (hV1 : V[1]? = some (.int .i64 (frA tag : Int))) (hV2 : V[2]? = some (.int .i64 ((frA tag + frH v : Nat) : Int))) {l : List Int} {B O : List UInt8} (hB : B = frB v tag u C Cs sp dp fl X Y d pd) (hO : O = frB v tag u C' Cs' sp dp fl X Y d pd) (hl : zee B O (zim B O) = l) :
 ∃ k, GReach (zbR Try.prog (ze4 Try.prog [] 100 4) (lsT noT) RBL mRB) 8 k (vRB B O l.length 0) (hRB B0 B1 B2 B O V B6 (l.map (AV.int .i64))) (.exit 0) (vRB B O l.length l.length) (hRB B0 B1 B2 B O V B6 (l.map (AV.int .i64))) := by
 have hA : frA tag ≤ 100 := by cases tag <;> decide
 have hH : frH v ≤ 40 := by cases v <;> decide
 have hlen : B.length = O.length := by rw [hB, hO, zd5 H, zd5 H']
 have hlen0 : B.length = _ := (congrArg List.length hB).trans (zd5 H)
 have hu := zoP u
 have hd := H.hd
 have hp := H.hpd
 have hll : l.length ≤ 1000000 := by
  rw [← hl]
  have := zg4 B O (zim B O)
  have h2 : zim B O = B.length := by unfold zim; omega
  omega
 refine zwv (fun i => (vRB B O l.length i, hRB B0 B1 B2 B O V B6 (l.map (AV.int .i64)))) (N := l.length) (by simp) (fun i hi => ?_) ⟨[(115, .bool false)], _, _, (zA6 ..).trans (if_pos (by simp)), Gc.refl⟩
 subst hl
 obtain ⟨q, h1, h2, h3⟩ := zv1 hi
 obtain ⟨h4, h5⟩ := zxn hlen h2 h3
 have hs := zw4 H H' hC hCs q
 rw [← hB, ← hO] at hs
 obtain ⟨h6, h7, h8⟩ := hs.resolve_left h4
 refine ⟨_, _, _, zy0 hA (by omega) hV1 hV2 hi hll (by simp [hi, h1]) h5 (by omega) h7 h8 ?_, Gc.refl⟩
 have hsu : zoC u = 6 ∨ zoC u = 16 := by cases u <;> decide
 rcases h6 with ⟨_, h | h⟩ | h | h <;> omega


theorem zAC (v : Bool) (n m o : Int) (d : List UInt8) (hd : d.length ≤ 400) :
 ∃ h', Runs Try.prog 5 [.int .i64 n, .bool v, .bool false, slB 0 d, .int .i64 m, .int .i64 o] [zaC d] (.bool true) h' := by
 obtain ⟨C0, hB, H⟩ := zoo v false false false n 0 d 0 (by omega) (by omega)
 have hdm := ze1 m
 have hdo := ze1 o
 obtain ⟨a1, a2, H1⟩ := zke (pt := zaF m) H (okA v m) (by omega)
 rw [if_neg (show ¬ zaF m = 0 by omega)] at a2 H1
 obtain ⟨b1, b2, H2⟩ := zke (pt := zaF o) H1 (okA v o) (by omega)
 rw [if_neg (show ¬ zaF o = 0 by omega)] at b2 H2
 obtain ⟨c1, c2, H3⟩ := zke (pt := zaF o) H (okA v o) (by omega)
 rw [if_neg (show ¬ zaF o = 0 by omega)] at c2 H3
 have hok := (zt9 v false false n 0 d).resolve_left (fun h => by cases h.2.1)
 obtain ⟨hz, hg⟩ := hok
 have lK : zbA.length = 16 := rfl
 have lM : (zbq m).length = 16 := rfl
 have lO : (zbq o).length = 16 := rfl
 have m1 := zh8 (v := v) (u := false) (dp := 80) (to := zaF m) lK lM (zdk v false false n 0 d) (by decide) (by omega) hz
 have r1 := ziE (u := false) (C := zek v false false n 0 d) (dp := 80) (to := zaF m) (A := adW v zbA) (B := adW v (zbq m))
 have m2 := zh8 (v := v) (u := false) (dp := zaF m) (to := zaF o) lM lO r1 (by omega) (by omega) m1.2
 have m3 := zh8 (v := v) (u := false) (dp := 80) (to := zaF o) lK lO (zdk v false false n 0 d) (by decide) (by omega) hz
 have g1 := zzN (v := v) (u := false) (X := zb8 n) (Y := zbA) (Y' := zbq m) (dp := 80) (dp' := zaF m) (C := zek v false false n 0 d) (fl := 0) (d := d) (sp := zat n) rfl lK lM (znL n) (by decide) (by omega) (zdk v false false n 0 d) hz hg
 have hgY := zir H1 H2 (.inr ⟨m1.2, g1⟩)
 have hgZ := zir H H3 (.inr ⟨hz, hg⟩)
 have hCs : (pC false (zek v false false n 0 d) 80 (zaF o) (adW v zbA) (adW v (zbq o)) - pC false (pC false (zek v false false n 0 d) 80 (zaF m) (adW v zbA) (adW v (zbq m))) (zaF m) (zaF o) (adW v (zbq m)) (adW v (zbq o))) % 65535 = 0 := by
  have x1 := m1.1; have x2 := m2.1; have x3 := m3.1
  omega
 have hCC : v = false → (hC v C0 zbA (zbq o) - hC v (hC v C0 zbA (zbq m)) (zbq m) (zbq o)) % 65535 = 0 := by
  intro hv
  have y1 := zkV lK lM H.hc hv
  have y2 := zkV (C := hC v C0 zbA (zbq m)) lM lO (zlV H.hc) hv
  have y3 := zkV lK lO H.hc hv
  omega
 rw [← zh3] at a1 a2 b1 b2 c1 c2
 obtain ⟨p1, p2, p3⟩ := zfh H2
 obtain ⟨q1, q2, q3⟩ := zfh H3
 have hl0 := zd5 H
 have hl1 := zd5 H1
 have hl2 := zd5 H2
 have hl3 := zd5 H3
 have hbl : (ze9 v false false false n 0 d 0).length ≤ 60000 := by
  rw [hB, hl0]
  have hA : frA false ≤ 18 := by decide
  have hH : frH v ≤ 40 := by cases v <;> decide
  have hu := zoP false
  simp; omega
 have lpr := fun {V B1 B2 B6} hV1 hV2 => zwh (B0 := zaC d) (B1 := B1) (B2 := B2) (B6 := B6) (V := V) H2 H3 hCC hCs hV1 hV2 rfl rfl rfl
 clear H H1 H2 H3 hCC hCs m1 m2 m3 r1 g1 hz hg
 rw [hB] at hbl
 have hb := fun {h : zaa} (hh : h[0]? = some (zaC d)) (hk : h.length = 1) => BuildR00.mk v false n 0 d 0 h (slB 0 d) 1 (zam hh rfl rfl) (by omega) (by omega) hk
 rw [hB] at hb
 clear hB
 generalize hFZ : frB v false false (hC v C0 zbA (zbq o)) (pC false (zek v false false n 0 d) 80 (zaF o) (adW v zbA) (adW v (zbq o))) (zat n) (zaF o) 0 (zb8 n) (zbq o) d (List.replicate 0 0) = Z at *
 generalize hFY : frB v false false (hC v (hC v C0 zbA (zbq m)) (zbq m) (zbq o)) (pC false (pC false (zek v false false n 0 d) 80 (zaF m) (adW v zbA) (adW v (zbq m))) (zaF m) (zaF o) (adW v (zbq m)) (adW v (zbq o))) (zat n) (zaF o) 0 (zb8 n) (zbq o) d (List.replicate 0 0) = Y at *
 generalize hFO : frB v false false (hC v C0 zbA (zbq m)) (pC false (zek v false false n 0 d) 80 (zaF m) (adW v zbA) (adW v (zbq m))) (zat n) (zaF m) 0 (zb8 n) (zbq m) d (List.replicate 0 0) = O at *
 generalize hFB : frB v false false C0 (zek v false false n 0 d) (zat n) 80 0 (zb8 n) zbA d (List.replicate 0 0) = B at *
 clear hFZ hFY hFO hFB
 generalize hll : zee Y Z (zim Y Z) = l at *
 rw [← za9, ← zh3] at p3 q3
 have p3' : zci Y = .tup [.agg (zaO v (frA false) (frA false + frH v : Nat) (frA false + frH v + (hdn false + d.length) : Nat) 6 (zbD v n) (zfL v o) (zat n) (zaF o) 0), .int .i64 0] := p3
 have q3' : zci Z = .tup [.agg (zaO v (frA false) (frA false + frH v : Nat) (frA false + frH v + (hdn false + d.length) : Nat) 6 (zbD v n) (zfL v o) (zat n) (zaF o) 0), .int .i64 0] := q3
 have wm : zas (zfL v m) = true := by rw [zh3]; exact zaK rfl
 have wo : zas (zfL v o) = true := by rw [zh3]; exact zaK rfl
 have eO : O.length = B.length := by rw [hl0, hl1]
 have eY : Y.length = B.length := by rw [hl0, hl2]
 have eZ : Z.length = B.length := by rw [hl0, hl3]
 have lp : za0 (zaB Try.prog 5) = [RBL] := by kernel_rfl
 have lpq := lpr (V := zaO v (frA false) (frA false + frH v : Nat) (frA false + frH v + (hdn false + d.length) : Nat) 6 (zbD v n) (zfL v o) (zat n) (zaF o) 0) (B1 := zbo B) (B2 := zbo O) (B6 := .cells (zaO v (frA false) (frA false + frH v : Nat) (frA false + frH v + (hdn false + d.length) : Nat) 6 (zbD v n) (zfL v o) (zat n) (zaF o) 0) 42 .own none) rfl rfl
 refine Runs.valT (zxx B O Y Z (.tup [.agg (zaO v (frA false) (frA false + frH v : Nat) (frA false + frH v + (hdn false + d.length) : Nat) 6 (zbD v n) (zfL v o) (zat n) (zaF o) 0), .int .i64 0]) l l.length) (F := 100) (n := 4) (pr := [(29, .bool false), (77, .bool false), (97, .bool false), (108, .bool false)]) (only (k := 15) lp (zwC (zar _) (F := 100) (n := 4) (LS := noT) (zeq (by kernel_rfl)) (fun _ : True => lpq))) ?_
 refine (zAy True v n m o (frA false) ((frA false + frH v : Nat) : Int) ((frA false + frH v + (hdn false + d.length) : Nat) : Int) d B O Y Z l l.length _).trans ?_
 refine (if_pos (by simp; omega)).trans ?_
 refine (if_pos (zab.2 (hb rfl rfl))).trans ?_
 refine (if_pos (zab.2 (.mk B O (zfL v m) (zaF m) _ _ 2 true (zam rfl rfl rfl) (by omega) wm (by omega) a2 (decide_eq_true a1) rfl))).trans ?_
 refine (if_pos (zab.2 (.mk O Y (zfL v o) (zaF o) _ _ 3 true (zam rfl rfl rfl) (by omega) wo (by omega) b2 (decide_eq_true b1) rfl))).trans ?_
 refine (if_pos (zab.2 (.mk B Z (zfL v o) (zaF o) _ _ 4 true (zam rfl rfl rfl) (by omega) wo (by omega) c2 (decide_eq_true c1) rfl))).trans ?_
 refine (if_pos (by simp [eY, eZ])).trans ?_
 refine (if_pos (zab.2 (zc8 (zam rfl rfl rfl) (by show Z.length ≤ _; omega) q3'))).trans ?_
 refine (if_pos (zab.2 (zc8 (zam rfl rfl rfl) (by show Y.length ≤ _; omega) p3'))).trans ?_
 refine (if_pos (by simp)).trans ?_
 refine (if_pos (zab.2 (zlG (zam rfl rfl rfl) (by show Y.length ≤ _; omega) hgY))).trans ?_
 refine (if_pos (zab.2 (zlG (zam rfl rfl rfl) (by show Z.length ≤ _; omega) hgZ))).trans ?_
 refine (if_pos (zab.2 (.mk Y Z _ _ _ 7 (zam rfl rfl rfl) (zam rfl rfl rfl) (by omega) (by omega) _ hll rfl _ rfl))).trans ?_
 refine (if_pos (zab.2 ⟨trivial, rfl, rfl⟩)).trans ?_
 rfl


theorem zy2 (v : Bool) (n m o : Int) (d : List UInt8) (hd : d.length ≤ 400) :
 ∃ h', Runs Try.prog 5 [.int .i64 n, .bool v, .bool true, slB 0 d, .int .i64 m, .int .i64 o] [zaC d] (.bool true) h' := by
 obtain ⟨C0, hB, H⟩ := zoo v true false false n 0 d 0 (by omega) (by omega)
 have hdm := ze1 m
 have hdo := ze1 o
 obtain ⟨a1, a2, H1⟩ := zke (pt := zaF m) H (okA v m) (by omega)
 rw [if_neg (show ¬ zaF m = 0 by omega)] at a2 H1
 obtain ⟨b1, b2, H2⟩ := zke (pt := zaF o) H1 (okA v o) (by omega)
 rw [if_neg (show ¬ zaF o = 0 by omega)] at b2 H2
 obtain ⟨c1, c2, H3⟩ := zke (pt := zaF o) H (okA v o) (by omega)
 rw [if_neg (show ¬ zaF o = 0 by omega)] at c2 H3
 have hok := (zt9 v true false n 0 d).resolve_left (fun h => by cases h.2.1)
 obtain ⟨hz, hg⟩ := hok
 have lK : zbA.length = 16 := rfl
 have lM : (zbq m).length = 16 := rfl
 have lO : (zbq o).length = 16 := rfl
 have m1 := zh8 (v := v) (u := true) (dp := 80) (to := zaF m) lK lM (zdk v true false n 0 d) (by decide) (by omega) hz
 have r1 := ziE (u := true) (C := zek v true false n 0 d) (dp := 80) (to := zaF m) (A := adW v zbA) (B := adW v (zbq m))
 have m2 := zh8 (v := v) (u := true) (dp := zaF m) (to := zaF o) lM lO r1 (by omega) (by omega) m1.2
 have m3 := zh8 (v := v) (u := true) (dp := 80) (to := zaF o) lK lO (zdk v true false n 0 d) (by decide) (by omega) hz
 have g1 := zzN (v := v) (u := true) (X := zb8 n) (Y := zbA) (Y' := zbq m) (dp := 80) (dp' := zaF m) (C := zek v true false n 0 d) (fl := 0) (d := d) (sp := zat n) rfl lK lM (znL n) (by decide) (by omega) (zdk v true false n 0 d) hz hg
 have hgY := zir H1 H2 (.inr ⟨m1.2, g1⟩)
 have hgZ := zir H H3 (.inr ⟨hz, hg⟩)
 have hCs : (pC true (zek v true false n 0 d) 80 (zaF o) (adW v zbA) (adW v (zbq o)) - pC true (pC true (zek v true false n 0 d) 80 (zaF m) (adW v zbA) (adW v (zbq m))) (zaF m) (zaF o) (adW v (zbq m)) (adW v (zbq o))) % 65535 = 0 := by
  have x1 := m1.1; have x2 := m2.1; have x3 := m3.1
  omega
 have hCC : v = false → (hC v C0 zbA (zbq o) - hC v (hC v C0 zbA (zbq m)) (zbq m) (zbq o)) % 65535 = 0 := by
  intro hv
  have y1 := zkV lK lM H.hc hv
  have y2 := zkV (C := hC v C0 zbA (zbq m)) lM lO (zlV H.hc) hv
  have y3 := zkV lK lO H.hc hv
  omega
 rw [← zh3] at a1 a2 b1 b2 c1 c2
 obtain ⟨p1, p2, p3⟩ := zfh H2
 obtain ⟨q1, q2, q3⟩ := zfh H3
 have hl0 := zd5 H
 have hl1 := zd5 H1
 have hl2 := zd5 H2
 have hl3 := zd5 H3
 have hbl : (ze9 v true false false n 0 d 0).length ≤ 60000 := by
  rw [hB, hl0]
  have hA : frA false ≤ 18 := by decide
  have hH : frH v ≤ 40 := by cases v <;> decide
  have hu := zoP true
  simp; omega
 have lpr := fun {V B1 B2 B6} hV1 hV2 => zwh (B0 := zaC d) (B1 := B1) (B2 := B2) (B6 := B6) (V := V) H2 H3 hCC hCs hV1 hV2 rfl rfl rfl
 clear H H1 H2 H3 hCC hCs m1 m2 m3 r1 g1 hz hg
 rw [hB] at hbl
 have hb := fun {h : zaa} (hh : h[0]? = some (zaC d)) (hk : h.length = 1) => BuildR00.mk v true n 0 d 0 h (slB 0 d) 1 (zam hh rfl rfl) (by omega) (by omega) hk
 rw [hB] at hb
 clear hB
 generalize hFZ : frB v false true (hC v C0 zbA (zbq o)) (pC true (zek v true false n 0 d) 80 (zaF o) (adW v zbA) (adW v (zbq o))) (zat n) (zaF o) 0 (zb8 n) (zbq o) d (List.replicate 0 0) = Z at *
 generalize hFY : frB v false true (hC v (hC v C0 zbA (zbq m)) (zbq m) (zbq o)) (pC true (pC true (zek v true false n 0 d) 80 (zaF m) (adW v zbA) (adW v (zbq m))) (zaF m) (zaF o) (adW v (zbq m)) (adW v (zbq o))) (zat n) (zaF o) 0 (zb8 n) (zbq o) d (List.replicate 0 0) = Y at *
 generalize hFO : frB v false true (hC v C0 zbA (zbq m)) (pC true (zek v true false n 0 d) 80 (zaF m) (adW v zbA) (adW v (zbq m))) (zat n) (zaF m) 0 (zb8 n) (zbq m) d (List.replicate 0 0) = O at *
 generalize hFB : frB v false true C0 (zek v true false n 0 d) (zat n) 80 0 (zb8 n) zbA d (List.replicate 0 0) = B at *
 clear hFZ hFY hFO hFB
 generalize hll : zee Y Z (zim Y Z) = l at *
 rw [← za9, ← zh3] at p3 q3
 have p3' : zci Y = .tup [.agg (zaO v (frA false) (frA false + frH v : Nat) (frA false + frH v + (hdn true + d.length) : Nat) 17 (zbD v n) (zfL v o) (zat n) (zaF o) 0), .int .i64 0] := p3
 have q3' : zci Z = .tup [.agg (zaO v (frA false) (frA false + frH v : Nat) (frA false + frH v + (hdn true + d.length) : Nat) 17 (zbD v n) (zfL v o) (zat n) (zaF o) 0), .int .i64 0] := q3
 have wm : zas (zfL v m) = true := by rw [zh3]; exact zaK rfl
 have wo : zas (zfL v o) = true := by rw [zh3]; exact zaK rfl
 have eO : O.length = B.length := by rw [hl0, hl1]
 have eY : Y.length = B.length := by rw [hl0, hl2]
 have eZ : Z.length = B.length := by rw [hl0, hl3]
 have lp : za0 (zaB Try.prog 5) = [RBL] := by kernel_rfl
 have lpq := lpr (V := zaO v (frA false) (frA false + frH v : Nat) (frA false + frH v + (hdn true + d.length) : Nat) 17 (zbD v n) (zfL v o) (zat n) (zaF o) 0) (B1 := zbo B) (B2 := zbo O) (B6 := .cells (zaO v (frA false) (frA false + frH v : Nat) (frA false + frH v + (hdn true + d.length) : Nat) 17 (zbD v n) (zfL v o) (zat n) (zaF o) 0) 42 .own none) rfl rfl
 refine Runs.valT (zxx B O Y Z (.tup [.agg (zaO v (frA false) (frA false + frH v : Nat) (frA false + frH v + (hdn true + d.length) : Nat) 17 (zbD v n) (zfL v o) (zat n) (zaF o) 0), .int .i64 0]) l l.length) (F := 100) (n := 4) (pr := [(29, .bool false), (77, .bool false), (97, .bool false), (108, .bool false)]) (only (k := 15) lp (zwC (zar _) (F := 100) (n := 4) (LS := noT) (zeq (by kernel_rfl)) (fun _ : True => lpq))) ?_
 refine (zy7 True v n m o (frA false) ((frA false + frH v : Nat) : Int) ((frA false + frH v + (hdn true + d.length) : Nat) : Int) d B O Y Z l l.length _).trans ?_
 refine (if_pos (by simp; omega)).trans ?_
 refine (if_pos (zab.2 (hb rfl rfl))).trans ?_
 refine (if_pos (zab.2 (.mk B O (zfL v m) (zaF m) _ _ 2 true (zam rfl rfl rfl) (by omega) wm (by omega) a2 (decide_eq_true a1) rfl))).trans ?_
 refine (if_pos (zab.2 (.mk O Y (zfL v o) (zaF o) _ _ 3 true (zam rfl rfl rfl) (by omega) wo (by omega) b2 (decide_eq_true b1) rfl))).trans ?_
 refine (if_pos (zab.2 (.mk B Z (zfL v o) (zaF o) _ _ 4 true (zam rfl rfl rfl) (by omega) wo (by omega) c2 (decide_eq_true c1) rfl))).trans ?_
 refine (if_pos (by simp [eY, eZ])).trans ?_
 refine (if_pos (zab.2 (zc8 (zam rfl rfl rfl) (by show Z.length ≤ _; omega) q3'))).trans ?_
 refine (if_pos (zab.2 (zc8 (zam rfl rfl rfl) (by show Y.length ≤ _; omega) p3'))).trans ?_
 refine (if_pos (by simp)).trans ?_
 refine (if_pos (zab.2 (zlG (zam rfl rfl rfl) (by show Y.length ≤ _; omega) hgY))).trans ?_
 refine (if_pos (zab.2 (zlG (zam rfl rfl rfl) (by show Z.length ≤ _; omega) hgZ))).trans ?_
 refine (if_pos (zab.2 (.mk Y Z _ _ _ 7 (zam rfl rfl rfl) (zam rfl rfl rfl) (by omega) (by omega) _ hll rfl _ rfl))).trans ?_
 refine (if_pos (zab.2 ⟨trivial, rfl, rfl⟩)).trans ?_
 rfl


theorem zjW (n : Int) (v u : Bool) (d : List UInt8) (m o : Int) (_ : -9223372036854775808 ≤ n ∧ n < 9223372036854775808) (_ : d.length ≤ maxLen) (_ : -9223372036854775808 ≤ m ∧ m < 9223372036854775808) (_ : -9223372036854775808 ≤ o ∧ o < 9223372036854775808) :
 ∃ h', Runs Try.prog 5 [.int .i64 n, .bool v, .bool u, slB 0 d, .int .i64 m, .int .i64 o] [zaC d] (.bool true) h' := by
 by_cases hb : d.length ≤ 400
 · cases u
   · exact zAC v n m o d hb
   · exact zy2 v n m o d hb
 · exact Runs.valT0 (zxx [] [] [] [] .nilFn [] 0) (F := 100) (n := 4) (pr := [(29, .bool true)]) ((zBw ..).trans (if_pos (by simp; omega)))


end Go.Proofs.Ytnchnjkakddhlaa.L
