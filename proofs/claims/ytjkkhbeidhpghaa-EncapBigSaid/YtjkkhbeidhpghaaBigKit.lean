/- Frames as long as may be. -/
import Derived.Test.YtjkkhbeidhpghaaEncIn
set_option autoImplicit false
set_option linter.unusedVariables false
namespace Go.Proofs.Ytjkkhbeidhpghaa.L
open Go Go.Abs
theorem any_read {v u : Bool} {A : Nat} {C : Int} {F X Y sg pd : List UInt8} (hX : okY v X) (hY : okY v Y) (hL : sg.length ≤ 65515) (hlen : F.length ≤ 65535) (hv : v = false → chkI (ipH false (prt u) sg.length C X Y) = 0) (hs : segR (prt u) sg = 0)
    (hn : netR F = ((A : Int), if v = true then 34525 else 2048, 0)) (hq : ipQ F = ipH v (prt u) sg.length C X Y ++ (sg ++ pd)) :
    readR F = 0 ∧ vRead F = .tup [.agg (viewOf v A (A + frH v : Nat) (A + frH v + sg.length : Nat) (prt u) (.bool v :: bys X) (.bool v :: bys Y) (word sg 0) (word sg 2) (segF (prt u) sg)), .int .i64 0] := by
  have hi := ipH_length (v := v) (p := prt u) (L := sg.length) (C := C) hX.1 hY.1
  have hG : ∀ (q : List UInt8) (H : Nat) (E : Int), q = ipH v (prt u) sg.length C X Y ++ (sg ++ pd) → H = frH v → E = (frH v : Int) + sg.length → ((q.drop ((H : Int)).toNat).take (E - (H : Int)).toNat) = sg := by
    intro q H E e1 e2 e3
    subst e1 e2 e3
    rw [show ((frH v : Nat) : Int).toNat = (ipH v (prt u) sg.length C X Y).length by rw [hi]; omega, List.drop_left, show ((frH v : Int) + sg.length - ((frH v : Nat) : Int)).toNat = sg.length by omega, List.take_left]
  cases v
  · obtain ⟨f1, f2, f3, f4, f5, f6⟩ := ip4_facts (u := u) (C := C) (pd := pd) hX hY hL (hv rfl)
    rw [← hq] at f1 f2 f3 f4 f5 f6
    have iv : isV6 F = false := by unfold isV6; rw [hn]; rfl
    have eS : rdS F = 20 := by unfold rdS; rw [iv]; exact f2
    have eE : rdE F = 20 + sg.length := by unfold rdE; rw [iv]; exact f3
    have eP : rdP F = prt u := by unfold rdP; rw [iv]; exact f4
    have eI : rdI F = 0 := by unfold rdI; rw [iv]; exact f1
    have eG : rdG F = sg := by unfold rdG; rw [eS, eE]; exact hG _ 20 _ hq rfl rfl
    have eR : readR F = 0 := by rw [readR_seg (by rw [hn]) (by omega) eI, eP, eG, hs]
    refine ⟨eR, ?_⟩
    unfold vRead viewL
    rw [eR, if_pos rfl, iv, eS, eE, eP, eG, hn]
    unfold rdSrc rdDst
    rw [iv, f5, f6]
    simp only [frH, Bool.false_eq_true, if_false, Int.natCast_add]
    rw [Int.add_assoc]; rfl
  · obtain ⟨f1, f3, f4, f5, f6⟩ := ip6_facts (u := u) (C := C) (pd := pd) hX hY (by omega)
    rw [← hq] at f1 f3 f4 f5 f6
    have iv : isV6 F = true := by unfold isV6; rw [hn]; rfl
    have eS : rdS F = 40 := by unfold rdS; rw [iv]; rfl
    have eE : rdE F = 40 + sg.length := by unfold rdE; rw [iv]; show 40 + word (ipQ F) 4 = _; rw [f3]
    have eP : rdP F = prt u := by unfold rdP; rw [iv]; exact f4
    have eI : rdI F = 0 := by unfold rdI; rw [iv]; exact f1
    have eG : rdG F = sg := by unfold rdG; rw [eS, eE]; exact hG _ 40 _ hq rfl rfl
    have eR : readR F = 0 := by rw [readR_seg (by rw [hn]) (by omega) eI, eP, eG, hs]
    refine ⟨eR, ?_⟩
    unfold vRead viewL
    rw [eR, if_pos rfl, iv, eS, eE, eP, eG, hn]
    unfold rdSrc rdDst
    rw [iv, if_pos rfl, if_pos rfl, f5, f6]
    simp only [frH, if_true, Int.natCast_add]
    rw [Int.add_assoc]; rfl
def bigS (n : Nat) : List UInt8 := [0, 0, 0, 0] ++ ([0] ++ ([8] ++ List.replicate n 0))
def bigF (v : Bool) (H : List UInt8) (n : Nat) : List UInt8 := Z12 ++ ([if v = true then 134 else 8] ++ ([if v = true then 221 else 0] ++ (H ++ bigS n)))
theorem bigS_length (n : Nat) : (bigS n).length = n + 6 := by simp [bigS]
theorem putMid {P X Y R : List UInt8} {k : Nat} (h : Y.length = X.length) (hk : k = P.length) : putCells (bys (P ++ (X ++ R))) k (bys Y) = bys (P ++ (Y ++ R)) := by
  subst hk
  rw [putCells_bytes _ _ _ (by simp; omega), List.take_left, List.drop_append, List.drop_of_length_le (by omega), show P.length + Y.length - P.length = X.length by omega, List.drop_left, List.nil_append, List.append_assoc]
theorem big_cells {v : Bool} {H : List UInt8} {n N h1 h2 : Nat} {cs : List AV} (hN : N = 14 + H.length + (n + 6)) (e1 : h1 = 14 + H.length + 4) (e2 : h2 = 14 + H.length + 5) (hc : cs = bys H) :
    putCells (putCells (putCells (putCells (putCells (zrep N [AV.int .u8 0]) 12 [AV.int .u8 8]) 13 [AV.int .u8 0]) 14 cs) h1 [AV.int .u8 0]) h2 [AV.int .u8 8] = bys (bigF false H n) ∧
    putCells (putCells (putCells (putCells (putCells (putCells (putCells (zrep N [AV.int .u8 0]) 12 [AV.int .u8 8]) 13 [AV.int .u8 0]) 12 [AV.int .u8 134]) 13 [AV.int .u8 221]) 14 cs) h1 [AV.int .u8 0]) h2 [AV.int .u8 8] = bys (bigF true H n) := by
  subst hN hc e1 e2
  have e : List.replicate (14 + H.length + (n + 6)) (0 : UInt8) = Z12 ++ ([0] ++ ([0] ++ (List.replicate H.length 0 ++ ([0, 0, 0, 0] ++ ([0] ++ ([0] ++ List.replicate n 0)))))) := by
    rw [show 14 + H.length + (n + 6) = 12 + (1 + (1 + (H.length + (4 + (1 + (1 + n)))))) by omega]
    simp only [← List.replicate_append_replicate]
    rfl
  have q : ∀ (x : UInt8), [AV.int .u8 (x.toNat : Int)] = bys [x] := fun x => rfl
  have p12 : ∀ (x y : UInt8) (R : List UInt8), putCells (bys (Z12 ++ ([x] ++ R))) 12 (bys [y]) = bys (Z12 ++ ([y] ++ R)) := fun x y R => putMid rfl rfl
  have p13 : ∀ (w x y : UInt8) (R : List UInt8), putCells (bys (Z12 ++ ([w] ++ ([x] ++ R)))) 13 (bys [y]) = bys (Z12 ++ ([w] ++ ([y] ++ R))) := fun w x y R => by
    have := putMid (P := Z12 ++ [w]) (X := [x]) (Y := [y]) (R := R) (k := 13) rfl rfl
    simpa using this
  have p14 : ∀ (w x : UInt8) (R : List UInt8), putCells (bys (Z12 ++ ([w] ++ ([x] ++ (List.replicate H.length 0 ++ R))))) 14 (bys H) = bys (Z12 ++ ([w] ++ ([x] ++ (H ++ R)))) := fun w x R => by
    have := putMid (P := Z12 ++ [w] ++ [x]) (X := List.replicate H.length 0) (Y := H) (R := R) (k := 14) (by simp) rfl
    simpa using this
  have p18 : ∀ (w x y z : UInt8) (R : List UInt8), putCells (bys (Z12 ++ ([w] ++ ([x] ++ (H ++ ([0, 0, 0, 0] ++ ([y] ++ R))))))) (14 + H.length + 4) (bys [z]) = bys (Z12 ++ ([w] ++ ([x] ++ (H ++ ([0, 0, 0, 0] ++ ([z] ++ R)))))) := fun w x y z R => by
    have := putMid (P := Z12 ++ [w] ++ [x] ++ H ++ [0, 0, 0, 0]) (X := [y]) (Y := [z]) (R := R) (k := 14 + H.length + 4) rfl (by simp [Z12]; omega)
    simpa using this
  have p19 : ∀ (w x y y' z : UInt8) (R : List UInt8), putCells (bys (Z12 ++ ([w] ++ ([x] ++ (H ++ ([0, 0, 0, 0] ++ ([y] ++ ([y'] ++ R)))))))) (14 + H.length + 5) (bys [z]) = bys (Z12 ++ ([w] ++ ([x] ++ (H ++ ([0, 0, 0, 0] ++ ([y] ++ ([z] ++ R))))))) := fun w x y y' z R => by
    have := putMid (P := Z12 ++ [w] ++ [x] ++ H ++ [0, 0, 0, 0] ++ [y]) (X := [y']) (Y := [z]) (R := R) (k := 14 + H.length + 5) rfl (by simp [Z12]; omega)
    simpa using this
  have c0 : [AV.int .u8 (0 : Int)] = bys [0] := q 0
  have c8 : [AV.int .u8 (8 : Int)] = bys [8] := q 8
  have c1 : [AV.int .u8 (134 : Int)] = bys [134] := q 134
  have c2 : [AV.int .u8 (221 : Int)] = bys [221] := q 221
  constructor
  · rw [zrep_one, e, c8, c0, p12, p13, p14, p18, p19]; rfl
  · rw [zrep_one, e, c8, c0, c1, c2, p12, p13, p12, p13, p14, p18, p19]; rfl
/-- What is read of it. -/
theorem big_read (v : Bool) (n : Nat) {H : List UInt8} (hn : frH v + (n + 6) ≤ 65521) (h8 : 2 ≤ n) (hp : (n : Int) + 6 ≤ 65515) (hH : H = (if v = true then make6 (kSrc true 3) (kDst true) 17 (n + 6 : Nat) else make4 (kSrc false 3) (kDst false) 17 (n + 6 : Nat))) :
    H.length = frH v ∧ (bigF v H n).length = 14 + frH v + (n + 6) ∧ (netR (bigF v H n)).2.2 = 0 ∧ (netR (bigF v H n)).1 = 14 ∧ ∃ sp dp fl, vRead (bigF v H n) = .tup [.agg (viewOf v 14 (14 + frH v : Nat) (14 + frH v + (n + 6) : Nat) 17 (kSrc v 3) (kDst v) sp dp fl), .int .i64 0] := by
  obtain ⟨C0, h0, h1, h2⟩ := bldH_ip v true 3 (L := n + 6) (by omega)
  have hHe : H = ipH v (prt true) (n + 6 : Nat) C0 (kSrcB 3) kDstB := by rw [← h1, hH]; unfold bldH; rfl
  have hHl : H.length = frH v := by rw [hHe]; exact ipH_length rfl rfl
  have hl : (bigF v H n).length = 14 + frH v + (n + 6) := by
    unfold bigF; simp only [List.length_append, bigS_length, hHl]; simp [Z12]; omega
  have hw : word (bigF v H n) 12 = if v = true then 34525 else 2048 := by
    cases v
    · show ((8 : UInt8).toNat : Int) * 256 + ((0 : UInt8).toNat : Int) = 2048; decide
    · show ((134 : UInt8).toNat : Int) * 256 + ((221 : UInt8).toNat : Int) = 34525; decide
  have hnet : netR (bigF v H n) = (((14 : Nat) : Int), if v = true then 34525 else 2048, 0) := by
    unfold netR
    rw [hl, if_neg (by omega), hw]
    cases v <;> rfl
  have hq : ipQ (bigF v H n) = ipH v (prt true) (bigS n).length C0 (kSrcB 3) kDstB ++ (bigS n ++ []) := by
    unfold ipQ; rw [hnet, bigS_length, List.append_nil, ← hHe]; rfl
  have hs : segR (prt true) (bigS n) = 0 := by
    have w4 : word (bigS n) 4 = 8 := by show ((0 : UInt8).toNat : Int) * 256 + ((8 : UInt8).toNat : Int) = 8; decide
    show segR 17 (bigS n) = 0
    unfold segR
    rw [if_neg (by decide), if_pos rfl, w4, bigS_length, if_neg (by omega), if_neg (by decide), if_neg (by omega)]
  have hr := any_read (u := true) (C := C0) (okS v 3) (okD v) (by rw [bigS_length]; omega) (by rw [hl]; omega) (fun e => by rw [bigS_length]; exact h2 e) hs hnet hq
  rw [bigS_length, ← kSrc_B, ← kDst_B] at hr
  exact ⟨hHl, hl, by rw [hnet], by rw [hnet]; rfl, _, _, _, hr.2⟩
end Go.Proofs.Ytjkkhbeidhpghaa.L
