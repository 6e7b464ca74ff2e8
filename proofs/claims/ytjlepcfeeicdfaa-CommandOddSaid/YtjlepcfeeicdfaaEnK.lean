/- command.Encode: its contract. -/
import Derived.Test.YtjlepcfeeicdfaaEnN
set_option autoImplicit false
set_option maxRecDepth 100000
set_option linter.unusedVariables false
set_option linter.unusedSimpArgs false
namespace Go.Proofs.Ytjlepcfeeicdfaa.L
open Go Go.Abs

theorem sPcE : SoundE Try.prog 27 (entF ePc) := by
  refine canonR_sound fun args h v h' hg => ?_
  unfold ePc at hg
  split at hg
  · rename_i cs po
    simp only [Option.some.injEq, Prod.mk.injEq, Bool.and_eq_true, decide_eq_true_eq] at hg
    obtain ⟨⟨hw, hp⟩, rfl, rfl⟩ := hg
    rw [opq_eq]
    obtain ⟨h', hr, h5⟩ := runPc hw hp
    have hf : AV.free (.agg cs) = true := adr_free hw
    refine ⟨[.agg cs, .int .u16 po], [], .cons _ _ _ _ _ _ _ (.flat _ _ hf) (.cons _ _ _ _ _ _ _ (.flat _ _ rfl) (.nil _)), _, _, hr, [some 5], _, rfl, ?_, ksOk1 _⟩
    have := denRow (m := h.length) (n := (plcL cs po).length) (k := 5) (n0 := 0) (h1 := h') (by omega) h5 (by simp) (by simp : AV.frees (bys (plcL cs po)) = true)
    simpa [slB] using this
  · simp at hg
theorem tElOk : ∀ f E, tEl.find f = some E → SoundE Try.prog f E := find_cons sPcE (find_nil _)
def okD (d : DipC) : Prop := adrWf (d.cells.take 17) = true ∧ 0 ≤ d.p ∧ d.p < 65536
def okP (P : PL) : Prop := ∀ m ∈ P, okD m.1
def plcD (d : DipC) : List UInt8 := plcL (d.cells.take 17) d.p
def memB (P : PL) : List UInt8 := P.flatMap fun m => plcD m.1 ++ [u8i m.2]
def headB (k pr : Int) (d : DipC) : List UInt8 := [u8i k, u8i pr] ++ plcD d
def encL (k pr : Int) (d : DipC) (P : PL) : List UInt8 := headB k pr d ++ (if k = 2 then [] else u8i P.length :: memB P)
theorem plcD_len {d : DipC} (h : okD d) : (plcD d).length = if adrV6 (d.cells.take 17) = true then 19 else 7 := plcL_len _ h.1
theorem plcD_le {d : DipC} (h : okD d) : (plcD d).length ≤ 19 := by rw [plcD_len h]; split <;> omega
theorem memB_snoc (P : PL) (i : Nat) (hi : i < P.length) : memB (P.take (i + 1)) = memB (P.take i) ++ (plcD P[i].1 ++ [u8i P[i].2]) := by
  have e : P.take (i + 1) = P.take i ++ [P[i]] := by rw [List.take_add_one, List.getElem?_eq_getElem hi]; rfl
  unfold memB; rw [e, List.flatMap_append]; simp only [List.flatMap_cons, List.flatMap_nil, List.append_nil]
theorem memB_le : ∀ {P : PL}, okP P → (memB P).length ≤ P.length * 20
  | [], _ => by simp [memB]
  | m :: P, h => by
    have h1 := memB_le (P := P) fun x hx => h x (List.mem_cons_of_mem _ hx)
    have h2 := plcD_le (h m List.mem_cons_self)
    unfold memB at h1 ⊢
    simp only [List.flatMap_cons, List.length_append, List.length_cons, List.length_nil] at h1 ⊢
    omega
theorem okP_take {P : PL} (h : okP P) (i : Nat) : okP (P.take i) := fun m hm => h m (List.mem_of_mem_take hm)
theorem wrapU8 (w : Int) : IntKind.u8.wrap w = ((u8i w).toNat : Int) := by rw [u8i_toNat]; unfold IntKind.wrap; exact if_neg (by simp [IntKind.signed])
theorem memC_it {P : PL} {i : Nat} (hi : i < P.length) : memC (itP P) i = illC P[i].1 P[i].2 := by
  have e6 : 0 + (i : Int).toNat * 19 = i * 19 := by omega
  unfold memC
  rw [e6, itP_19 hi, putC]
theorem ill_p (d : DipC) (w : Int) : (illC d w)[17]? = some (.int .u16 d.p) := by
  obtain ⟨w', x, po, rfl⟩ := dF_of d
  rfl
def enZ (Z : List UInt8) (P : PL) (i : Nat) : List UInt8 := Z ++ memB (P.take i)
def stEn (Z : List UInt8) (P : PL) (i : Nat) : List AV × AHeap := if i = 0 then (vEn 7 Z.length P.length 0, hEn0 (itP P) Z) else (vEn 8 (enZ Z P i).length P.length i, hEn (itP P) (enZ Z P i))

theorem stepEna {Z : List UInt8} {P : PL} {i : Nat} (hZ : Z.length ≤ 100000000) (hl : P.length ≤ 1000000) (hi : i < P.length) (ho : okD P[i].1) :
    ∃ vs1 h1, qround Try.prog tEl 100 4 [(41, .bool true)] noT ENL mEn (vEn 7 Z.length P.length i) (hEn0 (itP P) Z) = some (.norm, vs1, h1) ∧ Gc 8 vs1 h1 (vEn 8 (Z ++ (plcD P[i].1 ++ [u8i P[i].2])).length P.length ((i + 1 : Nat) : Int)) (hEn (itP P) (Z ++ (plcD P[i].1 ++ [u8i P[i].2]))) := by
  have e5 := wrap1 (i := i) (by omega)
  have hL := itP_length P
  have h20 := plcD_le ho
  obtain ⟨o1, o2, o3⟩ := ho
  rw [nfEna]
  unfold plcD at h20 ⊢
  refine ⟨?_, ?_, ?_, ?_⟩
  rotate_left 2
  · simp only [memC_it hi, ill_17, ill_p, ill_w, intV_some, opq_eq, e5]
    refine (if_pos (by simp; omega)).trans ?_
    refine (if_pos (by omega)).trans ?_
    refine (if_pos (by omega)).trans ?_
    refine (if_pos (by simp; omega)).trans ?_
    refine (if_pos (by rw [show 0 + (i : Int).toNat * 19 = i * 19 by omega, itP_19 hi]; exact ⟨by simp, illC_cell _ _⟩)).trans ?_
    refine (if_pos (by simp)).trans ?_
    refine (if_pos rfl).trans ?_
    refine (if_pos (by rw [o1, decide_eq_true (show 0 ≤ P[i].1.p ∧ P[i].1.p < 65536 from ⟨o2, o3⟩)]; rfl)).trans ?_
    refine (if_pos (by simp)).trans ?_
    repeat (first | (refine (if_pos ?_).trans ?_; · first | trivial | omega | (refine ⟨?_, ?_, ?_⟩ <;> first | trivial | omega) | (refine ⟨?_, ?_, ?_, ?_, ?_⟩ <;> first | trivial | omega | (simp; done)) | exact beq_self_int _ _ | (simp; done)))
    rfl
  · unfold hEna0
    simp only [memC_it hi, ill_17, ill_p, ill_w, intV_some, opq_eq]
    generalize plcL (List.take 17 P[i].1.cells) P[i].1.p = A at *
    have et : List.take ((Z.length + A.length) * 1) (List.take (Z.length * 1) (bys Z) ++ List.take (A.length * 1) (bys A)) ++ [AV.int IntKind.u8 (IntKind.u8.wrap P[i].2)] = bys (Z ++ (A ++ [u8i P[i].2])) := by
      rw [Nat.mul_one, Nat.mul_one, Nat.mul_one, List.take_of_length_le (l := bys Z) (by simp), List.take_of_length_le (l := bys A) (by simp), List.take_of_length_le (by simp), wrapU8]
      simp [bys]
    rw [et, show Z.length + A.length + 1 = (Z ++ (A ++ [u8i P[i].2])).length by simp; omega]
    exact Gc.by [0, 1, 2, 3, 4, 5, 6, 7, 12] rfl (by decide) (.cons _ _ _ _ (.sl _ _ _ _ _ _ rfl) (.cons _ _ _ _ (.sl _ _ _ _ _ _ rfl) (.free _ rfl))) (.cons _ _ _ _ _ rfl (.row (itP_frees _) (by simp)) (.cons _ _ _ _ _ rfl (.dead _) (.cons _ _ _ _ _ rfl (.dead _) (.cons _ _ _ _ _ rfl (.dead _) (.cons _ _ _ _ _ rfl (.dead _) (.cons _ _ _ _ _ rfl (.dead _) (.cons _ _ _ _ _ rfl (.dead _) (.cons _ _ _ _ _ rfl (.dead _) (.cons _ _ _ _ _ rfl (BR.grown (by simp) rfl) .nil)))))))))

theorem stepEnb {Z : List UInt8} {P : PL} {i : Nat} (hZ : Z.length ≤ 100000000) (hl : P.length ≤ 1000000) (hi : i < P.length) (ho : okD P[i].1) :
    ∃ vs1 h1, qround Try.prog tEl 100 4 [(41, .bool true)] noT ENL mEn (vEn 8 Z.length P.length i) (hEn (itP P) Z) = some (.norm, vs1, h1) ∧ Gc 8 vs1 h1 (vEn 8 (Z ++ (plcD P[i].1 ++ [u8i P[i].2])).length P.length ((i + 1 : Nat) : Int)) (hEn (itP P) (Z ++ (plcD P[i].1 ++ [u8i P[i].2]))) := by
  have e5 := wrap1 (i := i) (by omega)
  have hL := itP_length P
  have h20 := plcD_le ho
  obtain ⟨o1, o2, o3⟩ := ho
  rw [nfEnb]
  unfold plcD at h20 ⊢
  refine ⟨?_, ?_, ?_, ?_⟩
  rotate_left 2
  · simp only [memC_it hi, ill_17, ill_p, ill_w, intV_some, opq_eq, e5]
    refine (if_pos (by simp; omega)).trans ?_
    refine (if_pos (by omega)).trans ?_
    refine (if_pos (by omega)).trans ?_
    refine (if_pos (by simp; omega)).trans ?_
    refine (if_pos (by rw [show 0 + (i : Int).toNat * 19 = i * 19 by omega, itP_19 hi]; exact ⟨by simp, illC_cell _ _⟩)).trans ?_
    refine (if_pos (by simp)).trans ?_
    refine (if_pos rfl).trans ?_
    refine (if_pos (by rw [o1, decide_eq_true (show 0 ≤ P[i].1.p ∧ P[i].1.p < 65536 from ⟨o2, o3⟩)]; rfl)).trans ?_
    refine (if_pos (by simp)).trans ?_
    repeat (first | (refine (if_pos ?_).trans ?_; · first | trivial | omega | (refine ⟨?_, ?_, ?_⟩ <;> first | trivial | omega) | (refine ⟨?_, ?_, ?_, ?_, ?_⟩ <;> first | trivial | omega | (simp; done)) | exact beq_self_int _ _ | (simp; done)))
    rfl
  · unfold hEnb0
    simp only [memC_it hi, ill_17, ill_p, ill_w, intV_some, opq_eq]
    generalize plcL (List.take 17 P[i].1.cells) P[i].1.p = A at *
    have et : List.take ((Z.length + A.length) * 1) (List.take (Z.length * 1) (bys Z) ++ List.take (A.length * 1) (bys A)) ++ [AV.int IntKind.u8 (IntKind.u8.wrap P[i].2)] = bys (Z ++ (A ++ [u8i P[i].2])) := by
      rw [Nat.mul_one, Nat.mul_one, Nat.mul_one, List.take_of_length_le (l := bys Z) (by simp), List.take_of_length_le (l := bys A) (by simp), List.take_of_length_le (by simp), wrapU8]
      simp [bys]
    rw [et, show Z.length + A.length + 1 = (Z ++ (A ++ [u8i P[i].2])).length by simp; omega]
    exact Gc.by [0, 1, 2, 3, 4, 5, 6, 7, 13] rfl (by decide) (.cons _ _ _ _ (.sl _ _ _ _ _ _ rfl) (.cons _ _ _ _ (.sl _ _ _ _ _ _ rfl) (.free _ rfl))) (.cons _ _ _ _ _ rfl (.row (itP_frees _) (by simp)) (.cons _ _ _ _ _ rfl (.dead _) (.cons _ _ _ _ _ rfl (.dead _) (.cons _ _ _ _ _ rfl (.dead _) (.cons _ _ _ _ _ rfl (.dead _) (.cons _ _ _ _ _ rfl (.dead _) (.cons _ _ _ _ _ rfl (.dead _) (.cons _ _ _ _ _ rfl (.dead _) (.cons _ _ _ _ _ rfl (BR.grown (by simp) rfl) .nil)))))))))

theorem stepEn {Z : List UInt8} {P : PL} {i : Nat} (hZ : Z.length ≤ 1000000) (hl : P.length ≤ 1000000) (ho : okP P) (hi : i < P.length) :
    ∃ vs1 h1, qround Try.prog tEl 100 4 [(41, .bool true)] noT ENL mEn (stEn Z P i).1 (stEn Z P i).2 = some (.norm, vs1, h1) ∧ Gc 8 vs1 h1 (stEn Z P (i + 1)).1 (stEn Z P (i + 1)).2 := by
  have hm := ho P[i] (List.getElem_mem hi)
  have e1 : stEn Z P (i + 1) = (vEn 8 (enZ Z P (i + 1)).length P.length ((i + 1 : Nat) : Int), hEn (itP P) (enZ Z P (i + 1))) := if_neg (by omega)
  have e2 : enZ Z P (i + 1) = enZ Z P i ++ (plcD P[i].1 ++ [u8i P[i].2]) := by unfold enZ; rw [memB_snoc P i hi, List.append_assoc]
  rw [e1, e2]
  by_cases h0 : i = 0
  · subst h0
    have e3 : enZ Z P 0 = Z := by simp [enZ, memB]
    have e4 : stEn Z P 0 = (vEn 7 Z.length P.length 0, hEn0 (itP P) Z) := rfl
    rw [e3, e4]
    exact stepEna (i := 0) (by omega) hl hi hm
  · have e4 : stEn Z P i = (vEn 8 (enZ Z P i).length P.length i, hEn (itP P) (enZ Z P i)) := if_neg h0
    rw [e4]
    have h1 := memB_le (okP_take ho i)
    have h2 : (P.take i).length ≤ P.length := List.length_take_le' _ _
    exact stepEnb (by unfold enZ; rw [List.length_append]; omega) hl hi hm
theorem loopEn {Z : List UInt8} {P : PL} (hZ : Z.length ≤ 1000000) (hl : P.length ≤ 1000000) (ho : okP P) : ∃ k, GReach (roundG Try.prog (deepT Try.prog tEl 100 4) (lsT noT) ENL mEn) 8 k (vEn 7 Z.length P.length 0) (hEn0 (itP P) Z) (.exit 0) (stEn Z P P.length).1 (stEn Z P P.length).2 := by
  refine loop_T (stEn Z P) (N := P.length) (by simp) (fun i hi => ⟨_, stepEn hZ hl ho hi⟩) ?_
  by_cases h0 : P.length = 0
  · have e4 : stEn Z P P.length = (vEn 7 Z.length P.length 0, hEn0 (itP P) Z) := if_pos h0
    rw [e4]
    exact ⟨_, _, _, (nfEnsa ..).trans (if_pos (by rw [h0]; rfl)), Gc.refl⟩
  · have e4 : stEn Z P P.length = (vEn 8 (enZ Z P P.length).length P.length P.length, hEn (itP P) (enZ Z P P.length)) := if_neg h0
    rw [e4]
    exact ⟨_, _, _, (nfEnsb ..).trans (if_pos (by simp)), Gc.refl⟩


theorem lit_map (A : List UInt8) : A = (List.range A.length).map fun i => A.getD i 0 := by
  refine List.ext_getElem (by simp) fun i h1 h2 => ?_
  simp [List.getD_eq_getElem?_getD, List.getElem?_eq_getElem h1]
theorem lit7 {A : List UInt8} (h : A.length = 7) : ∃ z : Nat → UInt8, A = [z 0, z 1, z 2, z 3, z 4, z 5, z 6] := ⟨fun i => A.getD i 0, by
  conv => lhs; rw [lit_map A, h]
  rfl⟩
theorem lit19 {A : List UInt8} (h : A.length = 19) : ∃ z : Nat → UInt8, A = [z 0, z 1, z 2, z 3, z 4, z 5, z 6, z 7, z 8, z 9, z 10, z 11, z 12, z 13, z 14, z 15, z 16, z 17, z 18] := ⟨fun i => A.getD i 0, by
  conv => lhs; rw [lit_map A, h]
  rfl⟩
def encZ (k pr : Int) (d : DipC) (P : PL) : List UInt8 := if mayM k d P then encL k pr d P else []
def encE (k : Int) (d : DipC) (P : PL) : Int := if mayM k d P then 0 else 2
theorem hdr_bys (k : Int) {pr : Int} (hr : ((u8i pr).toNat : Int) = pr) (Z : List UInt8) : AV.int .u8 (IntKind.u8.wrap (intV (some (.int .i64 k)))) :: AV.int .u8 (intV (some (.int .u8 pr))) :: bys Z = bys ([u8i k, u8i pr] ++ Z) := by
  simp only [intV_some, wrapU8]
  simp [bys, hr]
theorem hdr_bys1 (k : Int) {pr : Int} (hr : ((u8i pr).toNat : Int) = pr) (Z : List UInt8) (n : Nat) : AV.int .u8 (IntKind.u8.wrap (intV (some (.int .i64 k)))) :: AV.int .u8 (intV (some (.int .u8 pr))) :: (bys Z ++ [AV.int .u8 (IntKind.u8.wrap n)]) = bys ([u8i k, u8i pr] ++ Z ++ [u8i n]) := by
  simp only [intV_some, wrapU8]
  simp [bys, hr]
theorem preEn {b1 b2 b3 b4 b5 b6 : ABlk} {C cs : List AV} {Z : List UInt8} {n : Nat} (hc : cs = bys Z) (hf : AV.frees C = true) : Pre 8 (vEn 7 Z.length n 0) [.cells C 19 .far none, b1, b2, b3, b4, b5, b6, .cells cs 1 .own (some 5)] (vEn 7 Z.length n 0) (hEn0 C Z) := by
  subst hc
  refine .gc _ _ _ [.cells C 19 .far none, .dead, .dead, .dead, .dead, .dead, .dead, .cells (bys Z) 1 .own (some 5)] _ _ ?_ (.orphan 7 5 1 .own (bys Z) _ _ (hEn0 C Z) _ _ rfl (fun b hb => by cases hb; rfl) rfl (.done _ _))
  exact Gc.by [0, 1, 2, 3, 4, 5, 6, 7] rfl (by decide) (.cons _ _ _ _ (.sl _ _ _ _ _ _ rfl) (.cons _ _ _ _ (.sl _ _ _ _ _ _ rfl) (.free _ rfl))) (.cons _ _ _ _ _ rfl (.row hf (by simp)) (.cons _ _ _ _ _ rfl (.dead _) (.cons _ _ _ _ _ rfl (.dead _) (.cons _ _ _ _ _ rfl (.dead _) (.cons _ _ _ _ _ rfl (.dead _) (.cons _ _ _ _ _ rfl (.dead _) (.cons _ _ _ _ _ rfl (.dead _) (.cons _ _ _ _ _ rfl (.cells _ _ _ _ _ _ (.free _ (by simp)) (fun p j h1 h2 => by cases h1; exact h2)) .nil))))))))
theorem runEn {P : PL} {k pr : Int} {w : Bool} {x : Nat → Int} {po : Int} (hl : P.length ≤ 1000000) (hd : okD (dF w x po)) (ho : okP P) (hr : 0 ≤ pr ∧ pr < 256) (m : Nat) :
    ∃ v1 h1, Runs Try.prog 10 [.agg (cmA k pr w x po (.sl (some (0, 0)) P.length 0 false))] [.cells (itP P) 19 .far none] v1 h1 ∧ ∃ ks, Den h1 1 m ks v1 (.tup [slB m (encZ k pr (dF w x po) P), .int .i64 (encE k (dF w x po) P)]) [ownB (encZ k pr (dF w x po) P)] ∧ KsOk ks := by
  have lp : loopsOf (bodyOf Try.prog 10) = [ENL] := by kernel_rfl
  by_cases hm : mayM k (dF w x po) P
  case neg =>
    have e1 : encZ k pr (dF w x po) P = [] := if_neg hm
    have e2 : encE k (dF w x po) P = 2 := if_neg hm
    rw [e1, e2]
    obtain ⟨h', hr⟩ := Runs.valT0 (tEnOk false []) (F := 100) (n := 4) (pr := [(9, .bool true)]) ((nfEnX (itP P) P.length k pr w x po _).trans (if_pos (cdec_true.2 (.mk P k pr (dF w x po) _ _ (rowP_blk rfl rfl) hl false (decide_eq_false hm)))))
    exact ⟨_, _, hr, _, denTupNil rfl, ksOk1 _⟩
  have e1 : encZ k pr (dF w x po) P = encL k pr (dF w x po) P := if_pos hm
  have e2 : encE k (dF w x po) P = 0 := if_pos hm
  rw [e1, e2]
  have hlen := plcD_len hd
  have hw : adrWf (adF w x) = true := hd.1
  have hp : 0 ≤ po ∧ po < 65536 := hd.2
  have hv : adrV6 ((dF w x po).cells.take 17) = w := by cases w <;> rfl
  rw [hv] at hlen
  have hpr : ((u8i pr).toNat : Int) = pr := by rw [u8i_toNat]; omega

  by_cases hw6 : w = false
  · have hl' : (plcD (dF w x po)).length = 7 := by rw [hlen, hw6]; rfl
    obtain ⟨z, hz⟩ := lit7 hl'
    have eh : headB k pr (dF w x po) = [u8i k, u8i pr] ++ [z 0, z 1, z 2, z 3, z 4, z 5, z 6] := by unfold headB; rw [hz]
    by_cases h2 : k = 2
    · have e : encL k pr (dF w x po) P = [u8i k, u8i pr] ++ [z 0, z 1, z 2, z 3, z 4, z 5, z 6] := by unfold encL; rw [eh, if_pos h2, List.append_nil]
      rw [e]
      refine ⟨.tup [.sl (some (5, 0)) 9 0 false, .int .i64 0], hEnDF3 (itP P) P.length k pr w x po z, Runs.ofT0 (tEnOk true [z 0, z 1, z 2, z 3, z 4, z 5, z 6]) (F := 100) (n := 4) (pr := [(9, .bool false), (28, .bool true)]) ((nfEnDF (itP P) P.length k pr w x po z _).trans ?_), [some 5], denTupRow (z := 1) (by omega) (congrArg (fun c => some (ABlk.cells c 1 .own none)) (hdr_bys k hpr [z 0, z 1, z 2, z 3, z 4, z 5, z 6])) (by omega) rfl (by simp) rfl, ksOk1 _⟩
      refine (if_pos (cdec_true.2 (.mk P k pr (dF w x po) _ _ (rowP_blk rfl rfl) hl true (decide_eq_true hm)))).trans ?_
      refine (if_pos (cdec_true.2 (.mk (adF w x) po _ _ _ hw hp hz rfl))).trans ?_
      refine (if_pos (AV.beq_self _)).trans ?_
      refine (if_pos (AV.beq_self _)).trans ?_
      refine (if_pos (beq_of h2)).trans ?_
      kernel_rfl
    · have e : encL k pr (dF w x po) P = enZ ([u8i k, u8i pr] ++ [z 0, z 1, z 2, z 3, z 4, z 5, z 6] ++ [u8i P.length]) P P.length := by unfold encL enZ; rw [eh, if_neg h2, List.take_length]; exact (List.append_assoc _ [u8i P.length] (memB P)).symm
      rw [e]
      have key : True → ∃ vs2 h2, Pre 8 (vEn 7 (2 + [z 0, z 1, z 2, z 3, z 4, z 5, z 6].length + 1) P.length 0) (hEnLF3 (itP P) P.length k pr w x po z True [] [] 0 0 []) vs2 h2 ∧ ∃ t, GReach (roundG Try.prog (deepT Try.prog tEl 100 4) (lsT noT) ENL mEn) 8 t vs2 h2 (.exit 0) (stEn ([u8i k, u8i pr] ++ [z 0, z 1, z 2, z 3, z 4, z 5, z 6] ++ [u8i P.length]) P P.length).1 (stEn ([u8i k, u8i pr] ++ [z 0, z 1, z 2, z 3, z 4, z 5, z 6] ++ [u8i P.length]) P P.length).2 := by
        intro _
        exact ⟨_, _, preEn (Z := [u8i k, u8i pr] ++ [z 0, z 1, z 2, z 3, z 4, z 5, z 6] ++ [u8i P.length]) (hdr_bys1 k hpr [z 0, z 1, z 2, z 3, z 4, z 5, z 6] P.length) (itP_frees P), loopEn (Z := [u8i k, u8i pr] ++ [z 0, z 1, z 2, z 3, z 4, z 5, z 6] ++ [u8i P.length]) (by simp) hl ho⟩
      by_cases h0 : P.length = 0
      · rw [show stEn ([u8i k, u8i pr] ++ [z 0, z 1, z 2, z 3, z 4, z 5, z 6] ++ [u8i P.length]) P P.length = (vEn 7 (enZ ([u8i k, u8i pr] ++ [z 0, z 1, z 2, z 3, z 4, z 5, z 6] ++ [u8i P.length]) P P.length).length P.length P.length, hEn0 (itP P) (enZ ([u8i k, u8i pr] ++ [z 0, z 1, z 2, z 3, z 4, z 5, z 6] ++ [u8i P.length]) P P.length)) by rw [List.eq_nil_of_length_eq_zero h0]; rfl] at key
        generalize enZ ([u8i k, u8i pr] ++ [z 0, z 1, z 2, z 3, z 4, z 5, z 6] ++ [u8i P.length]) P P.length = Y at *
        refine ⟨.tup [.sl (some (7, 0)) Y.length 0 false, .int .i64 0], hEn0 (itP P) Y, Runs.ofT (tEnOk true [z 0, z 1, z 2, z 3, z 4, z 5, z 6]) (F := 100) (n := 4) (pr := [(9, .bool false), (28, .bool false)]) (only (k := 8) lp (fixP_T tElOk (F := 100) (n := 4) (LS := noT) (noLoops (by kernel_rfl)) key)) ((nfEnLF (itP P) P.length k pr w x po z _ _ _ 7 Y.length _ _).trans ?_), [some 7], denTupRow (z := 1) (by omega) rfl (by omega) (by simp) (by simp) rfl, ksOk1 _⟩
        refine (if_pos (cdec_true.2 (.mk P k pr (dF w x po) _ _ (rowP_blk rfl rfl) hl true (decide_eq_true hm)))).trans ?_
        refine (if_pos (cdec_true.2 (.mk (adF w x) po _ _ _ hw hp hz rfl))).trans ?_
        refine (if_pos (AV.beq_self _)).trans ?_
        refine (if_pos (AV.beq_self _)).trans ?_
        refine (if_pos (by simpa using h2)).trans ?_
        exact if_pos (cdec_true.2 ⟨trivial, rfl, rfl⟩)
      · rw [show stEn ([u8i k, u8i pr] ++ [z 0, z 1, z 2, z 3, z 4, z 5, z 6] ++ [u8i P.length]) P P.length = (vEn 8 (enZ ([u8i k, u8i pr] ++ [z 0, z 1, z 2, z 3, z 4, z 5, z 6] ++ [u8i P.length]) P P.length).length P.length P.length, hEn (itP P) (enZ ([u8i k, u8i pr] ++ [z 0, z 1, z 2, z 3, z 4, z 5, z 6] ++ [u8i P.length]) P P.length)) from if_neg h0] at key
        generalize enZ ([u8i k, u8i pr] ++ [z 0, z 1, z 2, z 3, z 4, z 5, z 6] ++ [u8i P.length]) P P.length = Y at *
        refine ⟨.tup [.sl (some (8, 0)) Y.length 0 false, .int .i64 0], hEn (itP P) Y, Runs.ofT (tEnOk true [z 0, z 1, z 2, z 3, z 4, z 5, z 6]) (F := 100) (n := 4) (pr := [(9, .bool false), (28, .bool false)]) (only (k := 8) lp (fixP_T tElOk (F := 100) (n := 4) (LS := noT) (noLoops (by kernel_rfl)) key)) ((nfEnLF (itP P) P.length k pr w x po z _ _ _ 8 Y.length _ _).trans ?_), [some 8], denTupRow (z := 1) (by omega) rfl (by omega) (by simp) (by simp) rfl, ksOk1 _⟩
        refine (if_pos (cdec_true.2 (.mk P k pr (dF w x po) _ _ (rowP_blk rfl rfl) hl true (decide_eq_true hm)))).trans ?_
        refine (if_pos (cdec_true.2 (.mk (adF w x) po _ _ _ hw hp hz rfl))).trans ?_
        refine (if_pos (AV.beq_self _)).trans ?_
        refine (if_pos (AV.beq_self _)).trans ?_
        refine (if_pos (by simpa using h2)).trans ?_
        exact if_pos (cdec_true.2 ⟨trivial, rfl, rfl⟩)

  
  · have hl' : (plcD (dF w x po)).length = 19 := by rw [hlen, show w = true by simpa using hw6]; rfl
    obtain ⟨z, hz⟩ := lit19 hl'
    have eh : headB k pr (dF w x po) = [u8i k, u8i pr] ++ [z 0, z 1, z 2, z 3, z 4, z 5, z 6, z 7, z 8, z 9, z 10, z 11, z 12, z 13, z 14, z 15, z 16, z 17, z 18] := by unfold headB; rw [hz]
    by_cases h2 : k = 2
    · have e : encL k pr (dF w x po) P = [u8i k, u8i pr] ++ [z 0, z 1, z 2, z 3, z 4, z 5, z 6, z 7, z 8, z 9, z 10, z 11, z 12, z 13, z 14, z 15, z 16, z 17, z 18] := by unfold encL; rw [eh, if_pos h2, List.append_nil]
      rw [e]
      refine ⟨.tup [.sl (some (5, 0)) 21 0 false, .int .i64 0], hEnDT3 (itP P) P.length k pr w x po z, Runs.ofT0 (tEnOk true [z 0, z 1, z 2, z 3, z 4, z 5, z 6, z 7, z 8, z 9, z 10, z 11, z 12, z 13, z 14, z 15, z 16, z 17, z 18]) (F := 100) (n := 4) (pr := [(9, .bool false), (28, .bool true)]) ((nfEnDT (itP P) P.length k pr w x po z _).trans ?_), [some 5], denTupRow (z := 1) (by omega) (congrArg (fun c => some (ABlk.cells c 1 .own none)) (hdr_bys k hpr [z 0, z 1, z 2, z 3, z 4, z 5, z 6, z 7, z 8, z 9, z 10, z 11, z 12, z 13, z 14, z 15, z 16, z 17, z 18])) (by omega) rfl (by simp) rfl, ksOk1 _⟩
      refine (if_pos (cdec_true.2 (.mk P k pr (dF w x po) _ _ (rowP_blk rfl rfl) hl true (decide_eq_true hm)))).trans ?_
      refine (if_pos (cdec_true.2 (.mk (adF w x) po _ _ _ hw hp hz rfl))).trans ?_
      refine (if_pos (AV.beq_self _)).trans ?_
      refine (if_pos (AV.beq_self _)).trans ?_
      refine (if_pos (beq_of h2)).trans ?_
      kernel_rfl
    · have e : encL k pr (dF w x po) P = enZ ([u8i k, u8i pr] ++ [z 0, z 1, z 2, z 3, z 4, z 5, z 6, z 7, z 8, z 9, z 10, z 11, z 12, z 13, z 14, z 15, z 16, z 17, z 18] ++ [u8i P.length]) P P.length := by unfold encL enZ; rw [eh, if_neg h2, List.take_length]; exact (List.append_assoc _ [u8i P.length] (memB P)).symm
      rw [e]
      have key : True → ∃ vs2 h2, Pre 8 (vEn 7 (2 + [z 0, z 1, z 2, z 3, z 4, z 5, z 6, z 7, z 8, z 9, z 10, z 11, z 12, z 13, z 14, z 15, z 16, z 17, z 18].length + 1) P.length 0) (hEnLT3 (itP P) P.length k pr w x po z True [] [] 0 0 []) vs2 h2 ∧ ∃ t, GReach (roundG Try.prog (deepT Try.prog tEl 100 4) (lsT noT) ENL mEn) 8 t vs2 h2 (.exit 0) (stEn ([u8i k, u8i pr] ++ [z 0, z 1, z 2, z 3, z 4, z 5, z 6, z 7, z 8, z 9, z 10, z 11, z 12, z 13, z 14, z 15, z 16, z 17, z 18] ++ [u8i P.length]) P P.length).1 (stEn ([u8i k, u8i pr] ++ [z 0, z 1, z 2, z 3, z 4, z 5, z 6, z 7, z 8, z 9, z 10, z 11, z 12, z 13, z 14, z 15, z 16, z 17, z 18] ++ [u8i P.length]) P P.length).2 := by
        intro _
        exact ⟨_, _, preEn (Z := [u8i k, u8i pr] ++ [z 0, z 1, z 2, z 3, z 4, z 5, z 6, z 7, z 8, z 9, z 10, z 11, z 12, z 13, z 14, z 15, z 16, z 17, z 18] ++ [u8i P.length]) (hdr_bys1 k hpr [z 0, z 1, z 2, z 3, z 4, z 5, z 6, z 7, z 8, z 9, z 10, z 11, z 12, z 13, z 14, z 15, z 16, z 17, z 18] P.length) (itP_frees P), loopEn (Z := [u8i k, u8i pr] ++ [z 0, z 1, z 2, z 3, z 4, z 5, z 6, z 7, z 8, z 9, z 10, z 11, z 12, z 13, z 14, z 15, z 16, z 17, z 18] ++ [u8i P.length]) (by simp) hl ho⟩
      by_cases h0 : P.length = 0
      · rw [show stEn ([u8i k, u8i pr] ++ [z 0, z 1, z 2, z 3, z 4, z 5, z 6, z 7, z 8, z 9, z 10, z 11, z 12, z 13, z 14, z 15, z 16, z 17, z 18] ++ [u8i P.length]) P P.length = (vEn 7 (enZ ([u8i k, u8i pr] ++ [z 0, z 1, z 2, z 3, z 4, z 5, z 6, z 7, z 8, z 9, z 10, z 11, z 12, z 13, z 14, z 15, z 16, z 17, z 18] ++ [u8i P.length]) P P.length).length P.length P.length, hEn0 (itP P) (enZ ([u8i k, u8i pr] ++ [z 0, z 1, z 2, z 3, z 4, z 5, z 6, z 7, z 8, z 9, z 10, z 11, z 12, z 13, z 14, z 15, z 16, z 17, z 18] ++ [u8i P.length]) P P.length)) by rw [List.eq_nil_of_length_eq_zero h0]; rfl] at key
        generalize enZ ([u8i k, u8i pr] ++ [z 0, z 1, z 2, z 3, z 4, z 5, z 6, z 7, z 8, z 9, z 10, z 11, z 12, z 13, z 14, z 15, z 16, z 17, z 18] ++ [u8i P.length]) P P.length = Y at *
        refine ⟨.tup [.sl (some (7, 0)) Y.length 0 false, .int .i64 0], hEn0 (itP P) Y, Runs.ofT (tEnOk true [z 0, z 1, z 2, z 3, z 4, z 5, z 6, z 7, z 8, z 9, z 10, z 11, z 12, z 13, z 14, z 15, z 16, z 17, z 18]) (F := 100) (n := 4) (pr := [(9, .bool false), (28, .bool false)]) (only (k := 8) lp (fixP_T tElOk (F := 100) (n := 4) (LS := noT) (noLoops (by kernel_rfl)) key)) ((nfEnLT (itP P) P.length k pr w x po z _ _ _ 7 Y.length _ _).trans ?_), [some 7], denTupRow (z := 1) (by omega) rfl (by omega) (by simp) (by simp) rfl, ksOk1 _⟩
        refine (if_pos (cdec_true.2 (.mk P k pr (dF w x po) _ _ (rowP_blk rfl rfl) hl true (decide_eq_true hm)))).trans ?_
        refine (if_pos (cdec_true.2 (.mk (adF w x) po _ _ _ hw hp hz rfl))).trans ?_
        refine (if_pos (AV.beq_self _)).trans ?_
        refine (if_pos (AV.beq_self _)).trans ?_
        refine (if_pos (by simpa using h2)).trans ?_
        exact if_pos (cdec_true.2 ⟨trivial, rfl, rfl⟩)
      · rw [show stEn ([u8i k, u8i pr] ++ [z 0, z 1, z 2, z 3, z 4, z 5, z 6, z 7, z 8, z 9, z 10, z 11, z 12, z 13, z 14, z 15, z 16, z 17, z 18] ++ [u8i P.length]) P P.length = (vEn 8 (enZ ([u8i k, u8i pr] ++ [z 0, z 1, z 2, z 3, z 4, z 5, z 6, z 7, z 8, z 9, z 10, z 11, z 12, z 13, z 14, z 15, z 16, z 17, z 18] ++ [u8i P.length]) P P.length).length P.length P.length, hEn (itP P) (enZ ([u8i k, u8i pr] ++ [z 0, z 1, z 2, z 3, z 4, z 5, z 6, z 7, z 8, z 9, z 10, z 11, z 12, z 13, z 14, z 15, z 16, z 17, z 18] ++ [u8i P.length]) P P.length)) from if_neg h0] at key
        generalize enZ ([u8i k, u8i pr] ++ [z 0, z 1, z 2, z 3, z 4, z 5, z 6, z 7, z 8, z 9, z 10, z 11, z 12, z 13, z 14, z 15, z 16, z 17, z 18] ++ [u8i P.length]) P P.length = Y at *
        refine ⟨.tup [.sl (some (8, 0)) Y.length 0 false, .int .i64 0], hEn (itP P) Y, Runs.ofT (tEnOk true [z 0, z 1, z 2, z 3, z 4, z 5, z 6, z 7, z 8, z 9, z 10, z 11, z 12, z 13, z 14, z 15, z 16, z 17, z 18]) (F := 100) (n := 4) (pr := [(9, .bool false), (28, .bool false)]) (only (k := 8) lp (fixP_T tElOk (F := 100) (n := 4) (LS := noT) (noLoops (by kernel_rfl)) key)) ((nfEnLT (itP P) P.length k pr w x po z _ _ _ 8 Y.length _ _).trans ?_), [some 8], denTupRow (z := 1) (by omega) rfl (by omega) (by simp) (by simp) rfl, ksOk1 _⟩
        refine (if_pos (cdec_true.2 (.mk P k pr (dF w x po) _ _ (rowP_blk rfl rfl) hl true (decide_eq_true hm)))).trans ?_
        refine (if_pos (cdec_true.2 (.mk (adF w x) po _ _ _ hw hp hz rfl))).trans ?_
        refine (if_pos (AV.beq_self _)).trans ?_
        refine (if_pos (AV.beq_self _)).trans ?_
        refine (if_pos (by simpa using h2)).trans ?_
        exact if_pos (cdec_true.2 ⟨trivial, rfl, rfl⟩)

inductive EnR : List AV → AHeap → AV → AHeap → Prop
  | mk (P : PL) (k pr : Int) (d : DipC) (h : AHeap) (a : AV) (g : rowP h a P) (hl : P.length ≤ 1000000) (hd : okD d) (ho : okP P) (hr : 0 ≤ pr ∧ pr < 256) (Z : List UInt8) (hZ : encZ k pr d P = Z) (e : Int) (he : encE k d P = e) (j : Nat) (hj : h.length = j) : EnR [.agg (cmF k pr d a)] h (.tup [slB j Z, .int .i64 e]) [ownB Z]
theorem sEn (L : List (Nat × AV × AHeap)) : SoundE Try.prog 10 (entF (eRel EnR L)) := by
  refine relR_sound (fun args h v new hR => ?_) L
  cases hR with
  | mk P k pr d _ a g hl hd ho hr Z hZ e he j hj =>
  subst hZ he hj
  obtain ⟨w, x, po, rfl⟩ := dF_of d
  obtain ⟨v1, h1, h2, ks, h3, h4⟩ := runEn hl hd ho hr h.length
  exact ⟨_, _, .cons _ _ _ _ _ [.cells (itP P) 19 .far none] [] (canon_cmd g) (.nil _), v1, h1, h2, ks, h3, h4⟩


end Go.Proofs.Ytjlepcfeeicdfaa.L
