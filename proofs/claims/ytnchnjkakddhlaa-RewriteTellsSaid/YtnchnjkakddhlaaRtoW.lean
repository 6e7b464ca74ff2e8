/- The reference's To of any bytes: walks. -/
import Derived.Test.YtnchnjkakddhlaaRtoN
import Derived.Test.YtnchnjkakddhlaaGcKit
set_option autoImplicit false
set_option maxRecDepth 100000
set_option linter.unusedVariables false
set_option linter.unusedSimpArgs false
namespace Go.Proofs.Ytnchnjkakddhlaa.L
open Go Go.Abs

theorem wrapP {pt : Int} (h : 0 ≤ pt ∧ pt < 65536) : IntKind.i64.wrap (intV (some (AV.int .u16 pt))) = pt := by
  show IntKind.i64.wrap pt = pt
  exact wrapI64 (by omega)
theorem setsUp_snoc (x : UInt8) : ∀ (xs l : List UInt8) (p : Nat), setsUp l p (xs ++ [x]) = (setsUp l p xs).set (p + xs.length) x
  | [], l, p => rfl
  | y :: xs, l, p => by
    show setsUp (l.set p y) (p + 1) (xs ++ [x]) = _
    rw [setsUp_snoc x xs, setsUp]; congr 1; simp; omega
theorem loopRto (B0 B1 B4 : ABlk) (V : List AV) (S O : List UInt8) (G N : Nat) (hV : V[2]? = some (.int .i64 (G : Int))) (hS : G + S.length ≤ O.length) (hN : N = O.length) (hb : O.length ≤ 1000000) :
    ∃ k, GReach (roundG Try.prog (deepT Try.prog [] 100 5) (lsT noT) RTL mRto) 8 k (vRto S.length N 0) (hRtoC B0 B1 V (bys S) B4 (bys O)) (.exit 0) (vRto S.length N S.length) (hRtoC B0 B1 V (bys S) B4 (bys (setsUp O G S))) := by
  subst hN
  have main := loop_T (P := Try.prog) (t := []) (F := 100) (n := 5) (LS := noT) (c := RTL) (m := mRto) (n0 := 8) (fun i => (vRto S.length O.length i, hRtoC B0 B1 V (bys S) B4 (bys (setsUp O G (S.take i))))) (N := S.length) (e := .exit 0) (vs := vRto S.length O.length S.length) (h := hRtoC B0 B1 V (bys S) B4 (bys (setsUp O G S))) (by simp) (fun i hi => ?_) ⟨[(86, .bool false)], _, _, (nfRtos ..).trans (if_pos (by simp)), by rw [List.take_length]; exact Gc.refl⟩
  · exact main
  · refine ⟨[(86, .bool true)], _, _, (nfRtoa ..).trans ?_, Gc.refl⟩
    have e0 : 0 + (i : Int).toNat * 1 = i := by omega
    have e1 : intV (some (AV.int .i64 (G : Int))) = (G : Int) := rfl
    have e2 : IntKind.i64.wrap ((G : Int) + (i : Int)) = ((G + i : Nat) : Int) := by rw [wrapI64 (by omega)]; omega
    have e3 : 0 + ((G + i : Nat) : Int).toNat * 1 = G + i := by omega
    have e5 : IntKind.i64.wrap ((i : Int) + 1) = ((i + 1 : Nat) : Int) := by rw [wrapI64 (by omega)]; omega
    have hl := setsUp_length (S.take i) O G
    have e6 : putCells (bys (setsUp O G (S.take i))) (G + i) [AV.int .u8 (byt S i)] = bys (setsUp O G (S.take (i + 1))) := by
      have e7 : [AV.int .u8 (byt S i)] = bys [S[i]] := by
        show _ = [AV.int .u8 ((S[i].toNat : Nat) : Int)]
        unfold byt; rw [List.getD_eq_getElem?_getD, List.getElem?_eq_getElem hi, Option.getD_some]
      have ht : (S.take i).length = i := by simp; omega
      have ht1 : S.take (i + 1) = S.take i ++ [S[i]] := by rw [List.take_add_one, List.getElem?_eq_getElem hi]; rfl
      rw [e7, ht1, setsUp_snoc, ht]
      show (bys (setsUp O G (S.take i))).set (G + i) (AV.int .u8 ((S[i].toNat : Nat) : Int)) = _
      simp [bys]
    unfold hRtoa0
    simp only [hV, e0, e1, e2, e3, e5, bys_get, isIntV_byte, intV_byte, e6]
    refine (if_pos (by simp; omega)).trans ?_
    refine (if_pos rfl).trans ?_
    refine (if_pos (by omega)).trans ?_
    refine (if_pos (by simpa using hi)).trans ?_
    refine (if_pos (by omega)).trans ?_
    refine (if_pos ⟨by rw [bys_length, hl]; simp; omega, rfl⟩).trans ?_
    rfl
theorem preRto {F DB V S B : List AV} {R6 O : List AV} {s n : Nat} {e1 : Nat} (h0 : AV.frees F = true) (h1 : AV.frees DB = true) (h2 : AV.frees V = true) (h3 : AV.frees S = true) (h4 : AV.frees B = true) (h5 : AV.frees O = true) :
    Pre 8 (vRto s n 0) (hRto (.cells F 1 .far none) (.cells DB e1 .own none) V S (.cells B 1 .own none) (.cells R6 1 .ro none) O) (vRto s n 0) (hRtoC (.cells F 1 .far none) (.cells DB e1 .own none) V S (.cells B 1 .own none) O) :=
  .gc _ _ (vRto s n 0) (hRto (.cells F 1 .far none) (.cells DB e1 .own none) V S (.cells B 1 .own none) .dead O) _ _
    (Gc.by [0, 1, 2, 3, 4, 5, 6, 7] rfl (by decide) (.cons _ _ _ _ (.ptr _ _ _ rfl) (.cons _ _ _ _ (.sl _ _ _ _ _ _ rfl) (.cons _ _ _ _ (.sl _ _ _ _ _ _ rfl) (.free _ rfl))))
      (.cons _ _ _ _ _ rfl (.row h0 (by simp)) (.cons _ _ _ _ _ rfl (.row h1 (by simp)) (.cons _ _ _ _ _ rfl (.row h2 (by simp)) (.cons _ _ _ _ _ rfl (.row h3 (by simp)) (.cons _ _ _ _ _ rfl (.row h4 (by simp)) (.cons _ _ _ _ _ rfl (.dead _) (.cons _ _ _ _ _ rfl (.dead _) (.cons _ _ _ _ _ rfl (.cells _ _ _ _ _ _ (.free _ h5) (fun p j hp hj => by cases hp; cases hj; rfl)) .nil)))))))))
    (.orphan 7 6 1 .own O _ _ _ _ _ rfl (fun b hb => by cases hb; rfl) rfl (.done _ _))

theorem rtoRunFF (l D S : List UInt8) (b : UInt8) (p sp dp fl pt : Int) (A G E : Nat) (hl : E ≤ l.length ∧ l.length ≤ 65535) (h1 : A < G ∧ G < E) (U V cs : List AV) (wX : adrWf U = true) (wY : adrWf V = true) (wc : adrWf cs = true) (hv6 : adrV6 cs = false) (hval : adrValid cs = true) (hv : vRead l = .tup [.agg (viewOf false A G E p U V sp dp fl), .int .i64 0]) (hz : pt ≠ 0) (hp0 : 0 ≤ pt ∧ pt < 65536) (hpt : 0 ≤ pt ∧ pt < 65536)
    (hD : dest4 (l.drop A) cs = b :: D) (hDl : (b :: D).length = l.length - A) (hS : portL p ((l.drop G).take (E - G)) pt V cs = S) (hSl : S.length = E - G) :
    ∃ h', Runs Try.prog 9 [slB 0 l, .agg (cs ++ [.int .u16 pt])] [farB l] (.tup [.sl (some (7, 0)) l.length 0 false, .bool true]) h' ∧ h'[7]? = some (.cells (bys (setsUp (l.take A ++ (b :: D)) G S)) 1 .own none) := by
  obtain ⟨wx, x, rfl⟩ := adrWf_fn wX
  obtain ⟨wy, y, rfl⟩ := adrWf_fn wY
  obtain ⟨w, z, rfl⟩ := adrWf_fn wc
  obtain rfl : w = false := hv6
  obtain ⟨N, hN⟩ : ∃ N, N = l.length := ⟨_, rfl⟩
  have hO : (l.take A ++ (b :: D)).length = l.length := by rw [List.length_append, hDl, List.length_take]; omega
  have lp : loopsOf (bodyOf Try.prog 9) = [RTL] := by kernel_rfl
  have key : True → ∃ vs2 h2, Pre 8 (vRto S.length N 0) (hRto (farB l) (.cells (adF false z ++ [.int .u16 pt]) 18 .own none) (viewOf false A G E p (adF wx x) (adF wy y) sp dp fl) (bys S) (ownB (b :: D)) (.cells (bys (l.take A)) 1 .ro none) (bys (l.take A ++ (b :: D)))) vs2 h2 ∧ ∃ k, GReach (roundG Try.prog (deepT Try.prog [] 100 5) (lsT noT) RTL mRto) 8 k vs2 h2 (.exit 0) (vRto S.length N S.length) (hRtoC (farB l) (.cells (adF false z ++ [.int .u16 pt]) 18 .own none) (viewOf false A G E p (adF wx x) (adF wy y) sp dp fl) (bys S) (ownB (b :: D)) (bys (setsUp (l.take A ++ (b :: D)) G S))) := by
    intro _
    exact ⟨_, _, preRto (by simp) rfl rfl (by simp) (by simp) (by simp), loopRto _ _ _ _ S _ G N rfl (by omega) (by omega) (by omega)⟩
  rw [← hN]
  refine ⟨hRtoC (farB l) (.cells (adF false z ++ [.int .u16 pt]) 18 .own none) (viewOf false A G E p (adF wx x) (adF wy y) sp dp fl) (bys S) (ownB (b :: D)) (bys (setsUp (l.take A ++ (b :: D)) G S)), Runs.ofT (tRtoOk (b :: D) S (.tup [.agg (viewOf false A G E p (adF wx x) (adF wy y) sp dp fl), .int .i64 0])) (F := 100) (n := 5) (pr := [(33, .bool false), (38, .bool false)]) (only (k := 14) lp (fixP_T (find_nil _) (F := 100) (n := 5) (LS := noT) (noLoops (by kernel_rfl)) key)) ?_, rfl⟩
  have e2 : List.take ((b :: D).length * 1) (bys (b :: D)) = bys (b :: D) := List.take_of_length_le (by simp)
  have e1 : List.take ((A - 0) * 1) (bys l) = bys (l.take A) := by rw [show (A - 0) * 1 = A by omega]; simp
  have e3 : List.take ((0 + (A - 0)) * 1) (bys (l.take A)) = bys (l.take A) := List.take_of_length_le (by rw [bys_length, List.length_take]; omega)
  have HH : hRtoFF6 True l D S (l.take A ++ (b :: D)) (setsUp (l.take A ++ (b :: D)) G S) (bys (l.take A)) b false wx wy N A G E p sp dp fl pt x y z = hRtoFF7 True l D S (l.take A ++ (b :: D)) (setsUp (l.take A ++ (b :: D)) G S) (bys (l.take A)) b false wx wy N A G E p sp dp fl pt x y z := by
    have e0 : (intV (some (AV.int IntKind.i64 (A : Int)))).toNat = A := by simp [intV]
    show hRto (farB l) (.cells (adF false z ++ [.int .u16 pt]) 18 .own none) (viewOf false A G E p (adF wx x) (adF wy y) sp dp fl) (bys S) (ownB (b :: D)) (.cells (List.take (((intV (some (AV.int IntKind.i64 (A : Int)))).toNat - 0) * 1) (bys l)) 1 .ro none) (List.take ((0 + ((intV (some (AV.int IntKind.i64 (A : Int)))).toNat - 0)) * 1) (List.take (((intV (some (AV.int IntKind.i64 (A : Int)))).toNat - 0) * 1) (bys l)) ++ List.take ((b :: D).length * 1) (bys (b :: D))) = hRto (farB l) (.cells (adF false z ++ [.int .u16 pt]) 18 .own none) (viewOf false A G E p (adF wx x) (adF wy y) sp dp fl) (bys S) (ownB (b :: D)) (.cells (bys (l.take A)) 1 .ro none) (bys (l.take A ++ (b :: D)))
    rw [e0, e1, e3, e2, ← bys_append]
  refine (nfRtoFF True l D S (l.take A ++ (b :: D)) (setsUp (l.take A ++ (b :: D)) G S) (bys (l.take A)) b false wx wy N A G E p sp dp fl pt x y z _).trans ?_
  refine (if_pos (cdec_true.2 (sayRead (bOk_row rfl rfl rfl) (by show l.length ≤ _; omega) hv))).trans ?_
  refine (if_neg (by decide)).trans ?_
  refine (if_pos (cdec_true.2 (isAdr_wf wc))).trans ?_
  refine (if_pos (by rw [opq_eq]; show (!adrValid (adF false z)) = false; rw [hval]; rfl)).trans ?_
  refine (if_pos (by rw [wrapP hp0]; simp; omega)).trans ?_
  refine (if_pos (by first | omega | (simp only [intV, capOf_f, bys_length, Int.toNat_natCast]; omega))).trans ?_
  refine (if_pos (by first | omega | (simp only [intV, capOf_f, bys_length, Int.toNat_natCast]; omega))).trans ?_
  rw [wrapP hpt]
  refine (if_pos (cdec_true.2 (sayRPort (cs := adF wy y) (ds := adF false z) (l := (l.drop G).take (E - G)) (bOk_cut (l := l) rfl rfl (by first | omega | (simp only [intV, capOf_f, bys_length, Int.toNat_natCast]; omega)) (by simp only [intV, Int.toNat_natCast]; rw [show 0 + G * 1 = G by omega])) wY wc (by simp only [nOf_sl, intV]; omega) hpt hS rfl))).trans ?_
  refine (if_pos (by first | omega | (simp only [intV, capOf_f, bys_length, Int.toNat_natCast]; omega))).trans ?_
  refine (if_pos (cdec_true.2 (say4D9 (l := l.drop A) (bOk_cut (l := l) rfl rfl (by first | omega | (simp only [intV, capOf_f, bys_length, Int.toNat_natCast]; omega)) (by simp only [intV, Int.toNat_natCast]; rw [show 0 + A * 1 = A by omega, List.take_of_length_le (by simp)])) (by simp only [nOf_sl, intV]; omega) wc hD rfl))).trans ?_
  refine (if_pos (by first | omega | (simp only [intV, capOf_f, bys_length, Int.toNat_natCast]; omega))).trans ?_
  refine (if_pos (by first | omega | (simp only [intV, capOf_f, bys_length, Int.toNat_natCast]; omega))).trans ?_
  refine (if_pos ⟨by simp only [intV, capOf_f, bys_length, Int.toNat_natCast]; omega, rfl, by simp only [intV, capOf_f, bys_length, Int.toNat_natCast]; omega⟩).trans ?_
  refine (if_pos ⟨rfl, rfl, .inr rfl, rfl, by simp⟩).trans ?_
  refine (if_pos (by first | omega | (simp only [intV, capOf_f, bys_length, Int.toNat_natCast]; omega))).trans ?_
  refine (if_pos ⟨by simp only [intV, capOf_f, bys_length, Int.toNat_natCast]; omega, rfl, by simp only [intV, capOf_f, bys_length, Int.toNat_natCast]; omega⟩).trans ?_
  refine (if_pos (by simp only [intV, capOf_f, bys_length, Int.toNat_natCast, List.length_take]; omega)).trans ?_
  refine (if_pos ⟨rfl, by simp only [intV, capOf_f, bys_length, Int.toNat_natCast, List.length_take]; omega, .inr rfl, rfl, by simp⟩).trans ?_
  refine (if_pos (cdec_true.2 ⟨trivial, by simp only [intV, Int.toNat_natCast]; rw [show 0 + (A - 0) + (b :: D).length = N by omega], HH⟩)).trans ?_
  rfl

theorem rtoRunFT (l D S : List UInt8) (b : UInt8) (p sp dp fl pt : Int) (A G E : Nat) (hl : E ≤ l.length ∧ l.length ≤ 65535) (h1 : A < G ∧ G < E) (U V cs : List AV) (wX : adrWf U = true) (wY : adrWf V = true) (wc : adrWf cs = true) (hv6 : adrV6 cs = false) (hval : adrValid cs = true) (hv : vRead l = .tup [.agg (viewOf false A G E p U V sp dp fl), .int .i64 0]) (hz : pt = 0) (hp0 : 0 ≤ pt ∧ pt < 65536) (hpt : 0 ≤ dp ∧ dp < 65536)
    (hD : dest4 (l.drop A) cs = b :: D) (hDl : (b :: D).length = l.length - A) (hS : portL p ((l.drop G).take (E - G)) dp V cs = S) (hSl : S.length = E - G) :
    ∃ h', Runs Try.prog 9 [slB 0 l, .agg (cs ++ [.int .u16 pt])] [farB l] (.tup [.sl (some (7, 0)) l.length 0 false, .bool true]) h' ∧ h'[7]? = some (.cells (bys (setsUp (l.take A ++ (b :: D)) G S)) 1 .own none) := by
  obtain ⟨wx, x, rfl⟩ := adrWf_fn wX
  obtain ⟨wy, y, rfl⟩ := adrWf_fn wY
  obtain ⟨w, z, rfl⟩ := adrWf_fn wc
  obtain rfl : w = false := hv6
  obtain ⟨N, hN⟩ : ∃ N, N = l.length := ⟨_, rfl⟩
  have hO : (l.take A ++ (b :: D)).length = l.length := by rw [List.length_append, hDl, List.length_take]; omega
  have lp : loopsOf (bodyOf Try.prog 9) = [RTL] := by kernel_rfl
  have key : True → ∃ vs2 h2, Pre 8 (vRto S.length N 0) (hRto (farB l) (.cells (adF false z ++ [.int .u16 pt]) 18 .own none) (viewOf false A G E p (adF wx x) (adF wy y) sp dp fl) (bys S) (ownB (b :: D)) (.cells (bys (l.take A)) 1 .ro none) (bys (l.take A ++ (b :: D)))) vs2 h2 ∧ ∃ k, GReach (roundG Try.prog (deepT Try.prog [] 100 5) (lsT noT) RTL mRto) 8 k vs2 h2 (.exit 0) (vRto S.length N S.length) (hRtoC (farB l) (.cells (adF false z ++ [.int .u16 pt]) 18 .own none) (viewOf false A G E p (adF wx x) (adF wy y) sp dp fl) (bys S) (ownB (b :: D)) (bys (setsUp (l.take A ++ (b :: D)) G S))) := by
    intro _
    exact ⟨_, _, preRto (by simp) rfl rfl (by simp) (by simp) (by simp), loopRto _ _ _ _ S _ G N rfl (by omega) (by omega) (by omega)⟩
  rw [← hN]
  refine ⟨hRtoC (farB l) (.cells (adF false z ++ [.int .u16 pt]) 18 .own none) (viewOf false A G E p (adF wx x) (adF wy y) sp dp fl) (bys S) (ownB (b :: D)) (bys (setsUp (l.take A ++ (b :: D)) G S)), Runs.ofT (tRtoOk (b :: D) S (.tup [.agg (viewOf false A G E p (adF wx x) (adF wy y) sp dp fl), .int .i64 0])) (F := 100) (n := 5) (pr := [(33, .bool false), (38, .bool true)]) (only (k := 14) lp (fixP_T (find_nil _) (F := 100) (n := 5) (LS := noT) (noLoops (by kernel_rfl)) key)) ?_, rfl⟩
  have e2 : List.take ((b :: D).length * 1) (bys (b :: D)) = bys (b :: D) := List.take_of_length_le (by simp)
  have e1 : List.take ((A - 0) * 1) (bys l) = bys (l.take A) := by rw [show (A - 0) * 1 = A by omega]; simp
  have e3 : List.take ((0 + (A - 0)) * 1) (bys (l.take A)) = bys (l.take A) := List.take_of_length_le (by rw [bys_length, List.length_take]; omega)
  have HH : hRtoFT6 True l D S (l.take A ++ (b :: D)) (setsUp (l.take A ++ (b :: D)) G S) (bys (l.take A)) b false wx wy N A G E p sp dp fl pt x y z = hRtoFT7 True l D S (l.take A ++ (b :: D)) (setsUp (l.take A ++ (b :: D)) G S) (bys (l.take A)) b false wx wy N A G E p sp dp fl pt x y z := by
    have e0 : (intV (some (AV.int IntKind.i64 (A : Int)))).toNat = A := by simp [intV]
    show hRto (farB l) (.cells (adF false z ++ [.int .u16 pt]) 18 .own none) (viewOf false A G E p (adF wx x) (adF wy y) sp dp fl) (bys S) (ownB (b :: D)) (.cells (List.take (((intV (some (AV.int IntKind.i64 (A : Int)))).toNat - 0) * 1) (bys l)) 1 .ro none) (List.take ((0 + ((intV (some (AV.int IntKind.i64 (A : Int)))).toNat - 0)) * 1) (List.take (((intV (some (AV.int IntKind.i64 (A : Int)))).toNat - 0) * 1) (bys l)) ++ List.take ((b :: D).length * 1) (bys (b :: D))) = hRto (farB l) (.cells (adF false z ++ [.int .u16 pt]) 18 .own none) (viewOf false A G E p (adF wx x) (adF wy y) sp dp fl) (bys S) (ownB (b :: D)) (.cells (bys (l.take A)) 1 .ro none) (bys (l.take A ++ (b :: D)))
    rw [e0, e1, e3, e2, ← bys_append]
  refine (nfRtoFT True l D S (l.take A ++ (b :: D)) (setsUp (l.take A ++ (b :: D)) G S) (bys (l.take A)) b false wx wy N A G E p sp dp fl pt x y z _).trans ?_
  refine (if_pos (cdec_true.2 (sayRead (bOk_row rfl rfl rfl) (by show l.length ≤ _; omega) hv))).trans ?_
  refine (if_neg (by decide)).trans ?_
  refine (if_pos (cdec_true.2 (isAdr_wf wc))).trans ?_
  refine (if_pos (by rw [opq_eq]; show (!adrValid (adF false z)) = false; rw [hval]; rfl)).trans ?_
  refine (if_pos (by rw [wrapP hp0]; simp; omega)).trans ?_
  refine (if_pos (by first | omega | (simp only [intV, capOf_f, bys_length, Int.toNat_natCast]; omega))).trans ?_
  refine (if_pos (by first | omega | (simp only [intV, capOf_f, bys_length, Int.toNat_natCast]; omega))).trans ?_
  rw [wrapP hpt]
  refine (if_pos (cdec_true.2 (sayRPort (cs := adF wy y) (ds := adF false z) (l := (l.drop G).take (E - G)) (bOk_cut (l := l) rfl rfl (by first | omega | (simp only [intV, capOf_f, bys_length, Int.toNat_natCast]; omega)) (by simp only [intV, Int.toNat_natCast]; rw [show 0 + G * 1 = G by omega])) wY wc (by simp only [nOf_sl, intV]; omega) hpt hS rfl))).trans ?_
  refine (if_pos (by first | omega | (simp only [intV, capOf_f, bys_length, Int.toNat_natCast]; omega))).trans ?_
  refine (if_pos (cdec_true.2 (say4D9 (l := l.drop A) (bOk_cut (l := l) rfl rfl (by first | omega | (simp only [intV, capOf_f, bys_length, Int.toNat_natCast]; omega)) (by simp only [intV, Int.toNat_natCast]; rw [show 0 + A * 1 = A by omega, List.take_of_length_le (by simp)])) (by simp only [nOf_sl, intV]; omega) wc hD rfl))).trans ?_
  refine (if_pos (by first | omega | (simp only [intV, capOf_f, bys_length, Int.toNat_natCast]; omega))).trans ?_
  refine (if_pos (by first | omega | (simp only [intV, capOf_f, bys_length, Int.toNat_natCast]; omega))).trans ?_
  refine (if_pos ⟨by simp only [intV, capOf_f, bys_length, Int.toNat_natCast]; omega, rfl, by simp only [intV, capOf_f, bys_length, Int.toNat_natCast]; omega⟩).trans ?_
  refine (if_pos ⟨rfl, rfl, .inr rfl, rfl, by simp⟩).trans ?_
  refine (if_pos (by first | omega | (simp only [intV, capOf_f, bys_length, Int.toNat_natCast]; omega))).trans ?_
  refine (if_pos ⟨by simp only [intV, capOf_f, bys_length, Int.toNat_natCast]; omega, rfl, by simp only [intV, capOf_f, bys_length, Int.toNat_natCast]; omega⟩).trans ?_
  refine (if_pos (by simp only [intV, capOf_f, bys_length, Int.toNat_natCast, List.length_take]; omega)).trans ?_
  refine (if_pos ⟨rfl, by simp only [intV, capOf_f, bys_length, Int.toNat_natCast, List.length_take]; omega, .inr rfl, rfl, by simp⟩).trans ?_
  refine (if_pos (cdec_true.2 ⟨trivial, by simp only [intV, Int.toNat_natCast]; rw [show 0 + (A - 0) + (b :: D).length = N by omega], HH⟩)).trans ?_
  rfl

theorem rtoRunTF (l D S : List UInt8) (b : UInt8) (p sp dp fl pt : Int) (A G E : Nat) (hl : E ≤ l.length ∧ l.length ≤ 65535) (h1 : A < G ∧ G < E) (U V cs : List AV) (wX : adrWf U = true) (wY : adrWf V = true) (wc : adrWf cs = true) (hv6 : adrV6 cs = true) (hval : adrValid cs = true) (hv : vRead l = .tup [.agg (viewOf true A G E p U V sp dp fl), .int .i64 0]) (hz : pt ≠ 0) (hp0 : 0 ≤ pt ∧ pt < 65536) (hpt : 0 ≤ pt ∧ pt < 65536)
    (hD : dest6 (l.drop A) cs = b :: D) (hDl : (b :: D).length = l.length - A) (hS : portL p ((l.drop G).take (E - G)) pt V cs = S) (hSl : S.length = E - G) :
    ∃ h', Runs Try.prog 9 [slB 0 l, .agg (cs ++ [.int .u16 pt])] [farB l] (.tup [.sl (some (7, 0)) l.length 0 false, .bool true]) h' ∧ h'[7]? = some (.cells (bys (setsUp (l.take A ++ (b :: D)) G S)) 1 .own none) := by
  obtain ⟨wx, x, rfl⟩ := adrWf_fn wX
  obtain ⟨wy, y, rfl⟩ := adrWf_fn wY
  obtain ⟨w, z, rfl⟩ := adrWf_fn wc
  obtain rfl : w = true := hv6
  obtain ⟨N, hN⟩ : ∃ N, N = l.length := ⟨_, rfl⟩
  have hO : (l.take A ++ (b :: D)).length = l.length := by rw [List.length_append, hDl, List.length_take]; omega
  have lp : loopsOf (bodyOf Try.prog 9) = [RTL] := by kernel_rfl
  have key : True → ∃ vs2 h2, Pre 8 (vRto S.length N 0) (hRto (farB l) (.cells (adF true z ++ [.int .u16 pt]) 18 .own none) (viewOf true A G E p (adF wx x) (adF wy y) sp dp fl) (bys S) (ownB (b :: D)) (.cells (bys (l.take A)) 1 .ro none) (bys (l.take A ++ (b :: D)))) vs2 h2 ∧ ∃ k, GReach (roundG Try.prog (deepT Try.prog [] 100 5) (lsT noT) RTL mRto) 8 k vs2 h2 (.exit 0) (vRto S.length N S.length) (hRtoC (farB l) (.cells (adF true z ++ [.int .u16 pt]) 18 .own none) (viewOf true A G E p (adF wx x) (adF wy y) sp dp fl) (bys S) (ownB (b :: D)) (bys (setsUp (l.take A ++ (b :: D)) G S))) := by
    intro _
    exact ⟨_, _, preRto (by simp) rfl rfl (by simp) (by simp) (by simp), loopRto _ _ _ _ S _ G N rfl (by omega) (by omega) (by omega)⟩
  rw [← hN]
  refine ⟨hRtoC (farB l) (.cells (adF true z ++ [.int .u16 pt]) 18 .own none) (viewOf true A G E p (adF wx x) (adF wy y) sp dp fl) (bys S) (ownB (b :: D)) (bys (setsUp (l.take A ++ (b :: D)) G S)), Runs.ofT (tRtoOk (b :: D) S (.tup [.agg (viewOf true A G E p (adF wx x) (adF wy y) sp dp fl), .int .i64 0])) (F := 100) (n := 5) (pr := [(33, .bool false), (38, .bool false)]) (only (k := 14) lp (fixP_T (find_nil _) (F := 100) (n := 5) (LS := noT) (noLoops (by kernel_rfl)) key)) ?_, rfl⟩
  have e2 : List.take ((b :: D).length * 1) (bys (b :: D)) = bys (b :: D) := List.take_of_length_le (by simp)
  have e1 : List.take ((A - 0) * 1) (bys l) = bys (l.take A) := by rw [show (A - 0) * 1 = A by omega]; simp
  have e3 : List.take ((0 + (A - 0)) * 1) (bys (l.take A)) = bys (l.take A) := List.take_of_length_le (by rw [bys_length, List.length_take]; omega)
  have HH : hRtoTF6 True l D S (l.take A ++ (b :: D)) (setsUp (l.take A ++ (b :: D)) G S) (bys (l.take A)) b true wx wy N A G E p sp dp fl pt x y z = hRtoTF7 True l D S (l.take A ++ (b :: D)) (setsUp (l.take A ++ (b :: D)) G S) (bys (l.take A)) b true wx wy N A G E p sp dp fl pt x y z := by
    have e0 : (intV (some (AV.int IntKind.i64 (A : Int)))).toNat = A := by simp [intV]
    show hRto (farB l) (.cells (adF true z ++ [.int .u16 pt]) 18 .own none) (viewOf true A G E p (adF wx x) (adF wy y) sp dp fl) (bys S) (ownB (b :: D)) (.cells (List.take (((intV (some (AV.int IntKind.i64 (A : Int)))).toNat - 0) * 1) (bys l)) 1 .ro none) (List.take ((0 + ((intV (some (AV.int IntKind.i64 (A : Int)))).toNat - 0)) * 1) (List.take (((intV (some (AV.int IntKind.i64 (A : Int)))).toNat - 0) * 1) (bys l)) ++ List.take ((b :: D).length * 1) (bys (b :: D))) = hRto (farB l) (.cells (adF true z ++ [.int .u16 pt]) 18 .own none) (viewOf true A G E p (adF wx x) (adF wy y) sp dp fl) (bys S) (ownB (b :: D)) (.cells (bys (l.take A)) 1 .ro none) (bys (l.take A ++ (b :: D)))
    rw [e0, e1, e3, e2, ← bys_append]
  refine (nfRtoTF True l D S (l.take A ++ (b :: D)) (setsUp (l.take A ++ (b :: D)) G S) (bys (l.take A)) b true wx wy N A G E p sp dp fl pt x y z _).trans ?_
  refine (if_pos (cdec_true.2 (sayRead (bOk_row rfl rfl rfl) (by show l.length ≤ _; omega) hv))).trans ?_
  refine (if_neg (by decide)).trans ?_
  refine (if_pos (cdec_true.2 (isAdr_wf wc))).trans ?_
  refine (if_pos (by rw [opq_eq]; show (!adrValid (adF true z)) = false; rw [hval]; rfl)).trans ?_
  refine (if_pos (by rw [wrapP hp0]; simp; omega)).trans ?_
  refine (if_pos (by first | omega | (simp only [intV, capOf_f, bys_length, Int.toNat_natCast]; omega))).trans ?_
  refine (if_pos (by first | omega | (simp only [intV, capOf_f, bys_length, Int.toNat_natCast]; omega))).trans ?_
  rw [wrapP hpt]
  refine (if_pos (cdec_true.2 (sayRPort (cs := adF wy y) (ds := adF true z) (l := (l.drop G).take (E - G)) (bOk_cut (l := l) rfl rfl (by first | omega | (simp only [intV, capOf_f, bys_length, Int.toNat_natCast]; omega)) (by simp only [intV, Int.toNat_natCast]; rw [show 0 + G * 1 = G by omega])) wY wc (by simp only [nOf_sl, intV]; omega) hpt hS rfl))).trans ?_
  refine (if_pos (by first | omega | (simp only [intV, capOf_f, bys_length, Int.toNat_natCast]; omega))).trans ?_
  refine (if_pos (cdec_true.2 (say6D9 (l := l.drop A) (bOk_cut (l := l) rfl rfl (by first | omega | (simp only [intV, capOf_f, bys_length, Int.toNat_natCast]; omega)) (by simp only [intV, Int.toNat_natCast]; rw [show 0 + A * 1 = A by omega, List.take_of_length_le (by simp)])) (by simp only [nOf_sl, intV]; omega) wc hD rfl))).trans ?_
  refine (if_pos (by first | omega | (simp only [intV, capOf_f, bys_length, Int.toNat_natCast]; omega))).trans ?_
  refine (if_pos (by first | omega | (simp only [intV, capOf_f, bys_length, Int.toNat_natCast]; omega))).trans ?_
  refine (if_pos ⟨by simp only [intV, capOf_f, bys_length, Int.toNat_natCast]; omega, rfl, by simp only [intV, capOf_f, bys_length, Int.toNat_natCast]; omega⟩).trans ?_
  refine (if_pos ⟨rfl, rfl, .inr rfl, rfl, by simp⟩).trans ?_
  refine (if_pos (by first | omega | (simp only [intV, capOf_f, bys_length, Int.toNat_natCast]; omega))).trans ?_
  refine (if_pos ⟨by simp only [intV, capOf_f, bys_length, Int.toNat_natCast]; omega, rfl, by simp only [intV, capOf_f, bys_length, Int.toNat_natCast]; omega⟩).trans ?_
  refine (if_pos (by simp only [intV, capOf_f, bys_length, Int.toNat_natCast, List.length_take]; omega)).trans ?_
  refine (if_pos ⟨rfl, by simp only [intV, capOf_f, bys_length, Int.toNat_natCast, List.length_take]; omega, .inr rfl, rfl, by simp⟩).trans ?_
  refine (if_pos (cdec_true.2 ⟨trivial, by simp only [intV, Int.toNat_natCast]; rw [show 0 + (A - 0) + (b :: D).length = N by omega], HH⟩)).trans ?_
  rfl

theorem rtoRunTT (l D S : List UInt8) (b : UInt8) (p sp dp fl pt : Int) (A G E : Nat) (hl : E ≤ l.length ∧ l.length ≤ 65535) (h1 : A < G ∧ G < E) (U V cs : List AV) (wX : adrWf U = true) (wY : adrWf V = true) (wc : adrWf cs = true) (hv6 : adrV6 cs = true) (hval : adrValid cs = true) (hv : vRead l = .tup [.agg (viewOf true A G E p U V sp dp fl), .int .i64 0]) (hz : pt = 0) (hp0 : 0 ≤ pt ∧ pt < 65536) (hpt : 0 ≤ dp ∧ dp < 65536)
    (hD : dest6 (l.drop A) cs = b :: D) (hDl : (b :: D).length = l.length - A) (hS : portL p ((l.drop G).take (E - G)) dp V cs = S) (hSl : S.length = E - G) :
    ∃ h', Runs Try.prog 9 [slB 0 l, .agg (cs ++ [.int .u16 pt])] [farB l] (.tup [.sl (some (7, 0)) l.length 0 false, .bool true]) h' ∧ h'[7]? = some (.cells (bys (setsUp (l.take A ++ (b :: D)) G S)) 1 .own none) := by
  obtain ⟨wx, x, rfl⟩ := adrWf_fn wX
  obtain ⟨wy, y, rfl⟩ := adrWf_fn wY
  obtain ⟨w, z, rfl⟩ := adrWf_fn wc
  obtain rfl : w = true := hv6
  obtain ⟨N, hN⟩ : ∃ N, N = l.length := ⟨_, rfl⟩
  have hO : (l.take A ++ (b :: D)).length = l.length := by rw [List.length_append, hDl, List.length_take]; omega
  have lp : loopsOf (bodyOf Try.prog 9) = [RTL] := by kernel_rfl
  have key : True → ∃ vs2 h2, Pre 8 (vRto S.length N 0) (hRto (farB l) (.cells (adF true z ++ [.int .u16 pt]) 18 .own none) (viewOf true A G E p (adF wx x) (adF wy y) sp dp fl) (bys S) (ownB (b :: D)) (.cells (bys (l.take A)) 1 .ro none) (bys (l.take A ++ (b :: D)))) vs2 h2 ∧ ∃ k, GReach (roundG Try.prog (deepT Try.prog [] 100 5) (lsT noT) RTL mRto) 8 k vs2 h2 (.exit 0) (vRto S.length N S.length) (hRtoC (farB l) (.cells (adF true z ++ [.int .u16 pt]) 18 .own none) (viewOf true A G E p (adF wx x) (adF wy y) sp dp fl) (bys S) (ownB (b :: D)) (bys (setsUp (l.take A ++ (b :: D)) G S))) := by
    intro _
    exact ⟨_, _, preRto (by simp) rfl rfl (by simp) (by simp) (by simp), loopRto _ _ _ _ S _ G N rfl (by omega) (by omega) (by omega)⟩
  rw [← hN]
  refine ⟨hRtoC (farB l) (.cells (adF true z ++ [.int .u16 pt]) 18 .own none) (viewOf true A G E p (adF wx x) (adF wy y) sp dp fl) (bys S) (ownB (b :: D)) (bys (setsUp (l.take A ++ (b :: D)) G S)), Runs.ofT (tRtoOk (b :: D) S (.tup [.agg (viewOf true A G E p (adF wx x) (adF wy y) sp dp fl), .int .i64 0])) (F := 100) (n := 5) (pr := [(33, .bool false), (38, .bool true)]) (only (k := 14) lp (fixP_T (find_nil _) (F := 100) (n := 5) (LS := noT) (noLoops (by kernel_rfl)) key)) ?_, rfl⟩
  have e2 : List.take ((b :: D).length * 1) (bys (b :: D)) = bys (b :: D) := List.take_of_length_le (by simp)
  have e1 : List.take ((A - 0) * 1) (bys l) = bys (l.take A) := by rw [show (A - 0) * 1 = A by omega]; simp
  have e3 : List.take ((0 + (A - 0)) * 1) (bys (l.take A)) = bys (l.take A) := List.take_of_length_le (by rw [bys_length, List.length_take]; omega)
  have HH : hRtoTT6 True l D S (l.take A ++ (b :: D)) (setsUp (l.take A ++ (b :: D)) G S) (bys (l.take A)) b true wx wy N A G E p sp dp fl pt x y z = hRtoTT7 True l D S (l.take A ++ (b :: D)) (setsUp (l.take A ++ (b :: D)) G S) (bys (l.take A)) b true wx wy N A G E p sp dp fl pt x y z := by
    have e0 : (intV (some (AV.int IntKind.i64 (A : Int)))).toNat = A := by simp [intV]
    show hRto (farB l) (.cells (adF true z ++ [.int .u16 pt]) 18 .own none) (viewOf true A G E p (adF wx x) (adF wy y) sp dp fl) (bys S) (ownB (b :: D)) (.cells (List.take (((intV (some (AV.int IntKind.i64 (A : Int)))).toNat - 0) * 1) (bys l)) 1 .ro none) (List.take ((0 + ((intV (some (AV.int IntKind.i64 (A : Int)))).toNat - 0)) * 1) (List.take (((intV (some (AV.int IntKind.i64 (A : Int)))).toNat - 0) * 1) (bys l)) ++ List.take ((b :: D).length * 1) (bys (b :: D))) = hRto (farB l) (.cells (adF true z ++ [.int .u16 pt]) 18 .own none) (viewOf true A G E p (adF wx x) (adF wy y) sp dp fl) (bys S) (ownB (b :: D)) (.cells (bys (l.take A)) 1 .ro none) (bys (l.take A ++ (b :: D)))
    rw [e0, e1, e3, e2, ← bys_append]
  refine (nfRtoTT True l D S (l.take A ++ (b :: D)) (setsUp (l.take A ++ (b :: D)) G S) (bys (l.take A)) b true wx wy N A G E p sp dp fl pt x y z _).trans ?_
  refine (if_pos (cdec_true.2 (sayRead (bOk_row rfl rfl rfl) (by show l.length ≤ _; omega) hv))).trans ?_
  refine (if_neg (by decide)).trans ?_
  refine (if_pos (cdec_true.2 (isAdr_wf wc))).trans ?_
  refine (if_pos (by rw [opq_eq]; show (!adrValid (adF true z)) = false; rw [hval]; rfl)).trans ?_
  refine (if_pos (by rw [wrapP hp0]; simp; omega)).trans ?_
  refine (if_pos (by first | omega | (simp only [intV, capOf_f, bys_length, Int.toNat_natCast]; omega))).trans ?_
  refine (if_pos (by first | omega | (simp only [intV, capOf_f, bys_length, Int.toNat_natCast]; omega))).trans ?_
  rw [wrapP hpt]
  refine (if_pos (cdec_true.2 (sayRPort (cs := adF wy y) (ds := adF true z) (l := (l.drop G).take (E - G)) (bOk_cut (l := l) rfl rfl (by first | omega | (simp only [intV, capOf_f, bys_length, Int.toNat_natCast]; omega)) (by simp only [intV, Int.toNat_natCast]; rw [show 0 + G * 1 = G by omega])) wY wc (by simp only [nOf_sl, intV]; omega) hpt hS rfl))).trans ?_
  refine (if_pos (by first | omega | (simp only [intV, capOf_f, bys_length, Int.toNat_natCast]; omega))).trans ?_
  refine (if_pos (cdec_true.2 (say6D9 (l := l.drop A) (bOk_cut (l := l) rfl rfl (by first | omega | (simp only [intV, capOf_f, bys_length, Int.toNat_natCast]; omega)) (by simp only [intV, Int.toNat_natCast]; rw [show 0 + A * 1 = A by omega, List.take_of_length_le (by simp)])) (by simp only [nOf_sl, intV]; omega) wc hD rfl))).trans ?_
  refine (if_pos (by first | omega | (simp only [intV, capOf_f, bys_length, Int.toNat_natCast]; omega))).trans ?_
  refine (if_pos (by first | omega | (simp only [intV, capOf_f, bys_length, Int.toNat_natCast]; omega))).trans ?_
  refine (if_pos ⟨by simp only [intV, capOf_f, bys_length, Int.toNat_natCast]; omega, rfl, by simp only [intV, capOf_f, bys_length, Int.toNat_natCast]; omega⟩).trans ?_
  refine (if_pos ⟨rfl, rfl, .inr rfl, rfl, by simp⟩).trans ?_
  refine (if_pos (by first | omega | (simp only [intV, capOf_f, bys_length, Int.toNat_natCast]; omega))).trans ?_
  refine (if_pos ⟨by simp only [intV, capOf_f, bys_length, Int.toNat_natCast]; omega, rfl, by simp only [intV, capOf_f, bys_length, Int.toNat_natCast]; omega⟩).trans ?_
  refine (if_pos (by simp only [intV, capOf_f, bys_length, Int.toNat_natCast, List.length_take]; omega)).trans ?_
  refine (if_pos ⟨rfl, by simp only [intV, capOf_f, bys_length, Int.toNat_natCast, List.length_take]; omega, .inr rfl, rfl, by simp⟩).trans ?_
  refine (if_pos (cdec_true.2 ⟨trivial, by simp only [intV, Int.toNat_natCast]; rw [show 0 + (A - 0) + (b :: D).length = N by omega], HH⟩)).trans ?_
  rfl

theorem rtoBadF (l : List UInt8) (A G E p sp dp fl pt : Int) (hl : l.length ≤ 65535) (U V cs : List AV) (wX : adrWf U = true) (wY : adrWf V = true) (wc : adrWf cs = true) (hb : adrV6 cs ≠ false ∨ adrValid cs = false) (hv : vRead l = .tup [.agg (viewOf false A G E p U V sp dp fl), .int .i64 0]) :
    ∃ h1, Runs Try.prog 9 [slB 0 l, .agg (cs ++ [.int .u16 pt])] [farB l] (.tup [.sl none 0 0 true, .bool false]) h1 := by
  obtain ⟨wx, x, rfl⟩ := adrWf_fn wX
  obtain ⟨wy, y, rfl⟩ := adrWf_fn wY
  obtain ⟨w, z, rfl⟩ := adrWf_fn wc
  refine Runs.valT0 (tRtoOk [] [] (.tup [.agg (viewOf false A G E p (adF wx x) (adF wy y) sp dp fl), .int .i64 0])) (F := 100) (n := 5) (pr := [(33, .bool true)]) ?_
  refine (nfRtoBF l w wx wy A G E p sp dp fl pt x y z _).trans ?_
  refine (if_pos (cdec_true.2 (sayRead (bOk_row rfl rfl rfl) (by show l.length ≤ _; omega) hv))).trans ?_
  by_cases hw : w = false
  · subst hw
    refine (if_neg (by decide)).trans ?_
    refine (if_pos (cdec_true.2 (isAdr_wf wc))).trans ?_
    have hval := hb.resolve_left (fun h => h rfl)
    exact if_pos (by rw [opq_eq]; show (!adrValid (adF false z)) = true; rw [hval]; rfl)
  · exact if_pos (by cases w <;> first | rfl | exact absurd rfl hw)

theorem rtoBadT (l : List UInt8) (A G E p sp dp fl pt : Int) (hl : l.length ≤ 65535) (U V cs : List AV) (wX : adrWf U = true) (wY : adrWf V = true) (wc : adrWf cs = true) (hb : adrV6 cs ≠ true ∨ adrValid cs = false) (hv : vRead l = .tup [.agg (viewOf true A G E p U V sp dp fl), .int .i64 0]) :
    ∃ h1, Runs Try.prog 9 [slB 0 l, .agg (cs ++ [.int .u16 pt])] [farB l] (.tup [.sl none 0 0 true, .bool false]) h1 := by
  obtain ⟨wx, x, rfl⟩ := adrWf_fn wX
  obtain ⟨wy, y, rfl⟩ := adrWf_fn wY
  obtain ⟨w, z, rfl⟩ := adrWf_fn wc
  refine Runs.valT0 (tRtoOk [] [] (.tup [.agg (viewOf true A G E p (adF wx x) (adF wy y) sp dp fl), .int .i64 0])) (F := 100) (n := 5) (pr := [(33, .bool true)]) ?_
  refine (nfRtoBT l w wx wy A G E p sp dp fl pt x y z _).trans ?_
  refine (if_pos (cdec_true.2 (sayRead (bOk_row rfl rfl rfl) (by show l.length ≤ _; omega) hv))).trans ?_
  by_cases hw : w = true
  · subst hw
    refine (if_neg (by decide)).trans ?_
    refine (if_pos (cdec_true.2 (isAdr_wf wc))).trans ?_
    have hval := hb.resolve_left (fun h => h rfl)
    exact if_pos (by rw [opq_eq]; show (!adrValid (adF true z)) = true; rw [hval]; rfl)
  · exact if_pos (by cases w <;> first | rfl | exact absurd rfl hw)

theorem rtoErr (l : List UInt8) (r pt : Int) (hl : l.length ≤ 1000000000000) (cs : List AV) (wc : adrWf cs = true) (hr : readR l = r) (h0 : r ≠ 0) :
    ∃ h1, Runs Try.prog 9 [slB 0 l, .agg (cs ++ [.int .u16 pt])] [farB l] (.tup [.sl none 0 0 true, .bool false]) h1 := by
  obtain ⟨w, z, rfl⟩ := adrWf_fn wc
  refine Runs.valT0 (tRtoOk [] [] (.tup [.agg view0, .int .i64 r])) (F := 100) (n := 5) (pr := [(33, .bool true)]) ?_
  refine (nfRtoE l w r pt z _).trans ?_
  refine (if_pos (cdec_true.2 (sayRead (bOk_row rfl rfl rfl) hl (vRead_N hr h0)))).trans ?_
  exact if_pos (by simpa using h0)

end Go.Proofs.Ytnchnjkakddhlaa.L
