/- Segments that were built: how they are read, their sums, another port and address. -/
import Derived.Test.YtmlenlfhciapfaaFrmKit
set_option autoImplicit false
set_option linter.unusedVariables false
set_option linter.unusedSimpArgs false
namespace Go.Proofs.Ytmlenlfhciapfaa.L
open Go Go.Abs

/-- Those of its bytes that are told. -/
def adW (v : Bool) (Y : List UInt8) : List UInt8 := if v = true then Y else Y.take 4
theorem be2v {x : Int} (h : 0 ≤ x ∧ x < 65536) : ((u8i (x / 256)).toNat : Int) * 256 + ((u8i x).toNat : Int) = x := by
  rw [u8i_toNat, u8i_toNat]; omega
theorem segB_word0 {u : Bool} {sp dp : Int} {fl : UInt8} {C : Int} {d : List UInt8} (h : 0 ≤ sp ∧ sp < 65536) : word (segB u sp dp fl C d) 0 = sp := by
  cases u <;> exact be2v h
theorem segB_word2 {u : Bool} {sp dp : Int} {fl : UInt8} {C : Int} {d : List UInt8} (h : 0 ≤ dp ∧ dp < 65536) : word (segB u sp dp fl C d) 2 = dp := by
  cases u <;> exact be2v h
theorem segB_sum {u : Bool} {sp dp : Int} {fl : UInt8} {C : Int} {d : List UInt8} (h : 0 ≤ C ∧ C < 65536) : word (segB u sp dp fl C d) (if u = true then 6 else 16) = C := by
  cases u <;> exact be2v h
theorem segR_segB {u : Bool} {sp dp : Int} {fl : UInt8} {C : Int} {d : List UInt8} (hd : d.length ≤ 65000) : segR (prt u) (segB u sp dp fl C d) = 0 := by
  have hl := segB_length u sp dp fl C d
  cases u
  · have b : byt (segB false sp dp fl C d) 12 = 80 := by show ((80 : UInt8).toNat : Int) = 80; decide
    unfold segR
    have hl2 : (segB false sp dp fl C d).length = 20 + d.length := hl
    rw [if_pos (show prt false = 6 from rfl), b, hl2, if_neg (by omega), if_neg (by decide), if_neg (by omega)]
  · have b : word (segB true sp dp fl C d) 4 = 8 + d.length := by
      exact be2v (x := 8 + d.length) (by omega)
    unfold segR
    have hl2 : (segB true sp dp fl C d).length = 8 + d.length := hl
    rw [if_neg (show ¬ prt true = 6 by decide), if_pos (show prt true = 17 from rfl), b, hl2, if_neg (by omega), if_neg (by omega), if_neg (by omega)]
theorem segF_segB {u : Bool} {sp dp : Int} {fl : UInt8} {C : Int} {d : List UInt8} (hd : d.length ≤ 65000) : segF (prt u) (segB u sp dp fl C d) = if u = true then 0 else (fl.toNat : Int) := by
  have h := segR_segB (u := u) (sp := sp) (dp := dp) (fl := fl) (C := C) hd
  cases u
  · unfold segF segZ; rw [if_pos (show prt false = 6 from rfl), if_pos h]; rfl
  · unfold segF; rw [if_neg (show ¬ prt true = 6 by decide)]; rfl

theorem wsum_segB {u : Bool} {sp dp : Int} {fl : UInt8} {C : Int} {d : List UInt8} (h : 0 ≤ C ∧ C < 65536) : wsum (segB u sp dp fl C d) = wsum (segB u sp dp fl 0 d) + C := by
  have h1 := u8i_toNat (C / 256)
  have h2 := u8i_toNat C
  have h3 : ((u8i (0 / 256)).toNat : Int) = 0 := by decide
  have h4 : ((u8i 0).toNat : Int) = 0 := by decide
  cases u
  · show wsum (tcpH sp dp fl C ++ d) = wsum (tcpH sp dp fl 0 ++ d) + C
    rw [wsum_append _ _ (by simp [tcpH, udpH]), wsum_append _ _ (by simp [tcpH, udpH])]
    unfold tcpH
    simp only [wsum]
    omega
  · show wsum (udpH sp dp (8 + d.length) C ++ d) = wsum (udpH sp dp (8 + d.length) 0 ++ d) + C
    rw [wsum_append _ _ (by simp [tcpH, udpH]), wsum_append _ _ (by simp [tcpH, udpH])]
    unfold udpH
    simp only [wsum]
    omega
theorem wsum_segP {u : Bool} {sp dp sp' dp' : Int} {fl : UInt8} {C : Int} {d : List UInt8} (h : 0 ≤ sp ∧ sp < 65536) (h' : 0 ≤ sp' ∧ sp' < 65536) (g : 0 ≤ dp ∧ dp < 65536) (g' : 0 ≤ dp' ∧ dp' < 65536) :
    wsum (segB u sp' dp' fl C d) = wsum (segB u sp dp fl C d) + (sp' - sp) + (dp' - dp) := by
  have h1 := u8i_toNat (sp / 256)
  have h2 := u8i_toNat sp
  have h3 := u8i_toNat (dp / 256)
  have h4 := u8i_toNat dp
  have h5 := u8i_toNat (sp' / 256)
  have h6 := u8i_toNat sp'
  have h7 := u8i_toNat (dp' / 256)
  have h8 := u8i_toNat dp'
  cases u
  · show wsum (tcpH sp' dp' fl C ++ d) = wsum (tcpH sp dp fl C ++ d) + (sp' - sp) + (dp' - dp)
    rw [wsum_append _ _ (by simp [tcpH, udpH]), wsum_append _ _ (by simp [tcpH, udpH])]
    unfold tcpH
    simp only [wsum]
    omega
  · show wsum (udpH sp' dp' (8 + d.length) C ++ d) = wsum (udpH sp dp (8 + d.length) C ++ d) + (sp' - sp) + (dp' - dp)
    rw [wsum_append _ _ (by simp [tcpH, udpH]), wsum_append _ _ (by simp [tcpH, udpH])]
    unfold udpH
    simp only [wsum]
    omega

theorem fold_full {n : Int} (h : 0 < n) : foldI n = 65535 ↔ n % 65535 = 0 := by unfold foldI; rw [if_neg (by omega)]; omega
/-- All that is summed but the checksum. -/
def gK (v u : Bool) (X Y sg0 : List UInt8) : Int := wsum (pseudoL (prt u) sg0.length (.bool v :: bys X) (.bool v :: bys Y)) + wsum sg0
theorem wsum_ps (v u : Bool) (n : Int) {X Y : List UInt8} (hX : X.length = 16) (hY : Y.length = 16) :
    ∃ T : Int, 0 < T ∧ ∀ X Y : List UInt8, X.length = 16 → Y.length = 16 → wsum (pseudoL (prt u) n (.bool v :: bys X) (.bool v :: bys Y)) = wsum (adW v X) + wsum (adW v Y) + T := by
  have hp := (prt_b u).2.2.1
  have hp0 : 0 < prt u := by cases u <;> decide
  have e1 : n.fdiv 1 = n := by rw [Int.fdiv_eq_ediv_of_nonneg _ (by omega), Int.ediv_one]
  cases v
  · refine ⟨wsum ([0, u8i (prt u)] ++ bigR n 2), ?_, fun X Y hX hY => ?_⟩
    · rw [bigR8_2]
      simp only [wsum, List.cons_append, List.nil_append]
      omega
    · unfold pseudoL adW
      rw [adrB_F, adrB_F, if_neg (by simp [adrV6]), if_neg (by decide), if_neg (by decide), wsum_append _ _ (by simp [hX, hY]), wsum_append _ _ (by simp [hX])]
  · refine ⟨wsum (bigR n 4 ++ [0, 0, 0, u8i (prt u)]), ?_, fun X Y hX hY => ?_⟩
    · rw [bigR8_4]
      simp only [wsum, List.cons_append, List.nil_append]
      omega
    · unfold pseudoL adW
      rw [adrB_T, adrB_T, if_pos (by simp [adrV6]), if_pos rfl, if_pos rfl, wsum_append _ _ (by simp [hX, hY]), wsum_append _ _ (by simp [hX])]
theorem goodS_segB {v u : Bool} {X Y d : List UInt8} {sp dp C : Int} {fl : UInt8} (hX : X.length = 16) (hY : Y.length = 16) (hC : 0 ≤ C ∧ C < 65536) (hd : d.length ≤ 65000) :
    goodS (prt u) (segB u sp dp fl C d) (.bool v :: bys X) (.bool v :: bys Y) = (decide (u = true ∧ C = 0) || decide ((gK v u X Y (segB u sp dp fl 0 d) + C) % 65535 = 0)) := by
  have hl : (segB u sp dp fl C d).length = (segB u sp dp fl 0 d).length := by rw [segB_length, segB_length]
  have hw := wsum_segB (u := u) (sp := sp) (dp := dp) (fl := fl) (d := d) hC
  have w0 := wsum_range (segB u sp dp fl 0 d)
  obtain ⟨T, hT, e⟩ := wsum_ps v u (segB u sp dp fl 0 d).length hX hY
  have wX := wsum_range (adW v X)
  have wY := wsum_range (adW v Y)
  have hps := e X Y hX hY
  unfold goodS
  rw [decide_eq_true (show segR (prt u) (segB u sp dp fl C d) = 0 ∧ adrV6 (AV.bool v :: bys X) = adrV6 (AV.bool v :: bys Y) from ⟨segR_segB hd, rfl⟩), Bool.true_and, hl]
  congr 1
  · have : (prt u = 17 ∧ word (segB u sp dp fl C d) 6 = 0) ↔ (u = true ∧ C = 0) := by
      cases u
      · exact ⟨fun h => absurd h.1 (by decide), fun h => absurd h.1 (by decide)⟩
      · have := segB_sum (u := true) (sp := sp) (dp := dp) (fl := fl) (d := d) hC
        change word (segB true sp dp fl C d) 6 = C at this
        rw [this]; exact ⟨fun h => ⟨rfl, h.2⟩, fun h => ⟨rfl, h.2⟩⟩
    exact decide_eq_decide.2 this
  · apply decide_eq_decide.2
    unfold sumI gK
    rw [hw, hps, show (0 : Int) + (wsum (adW v X) + wsum (adW v Y) + T) = wsum (adW v X) + wsum (adW v Y) + T by omega, foldI_add (by omega) (by omega), fold_full (by omega)]
    rw [show wsum (adW v X) + wsum (adW v Y) + T + (wsum (segB u sp dp fl 0 d) + C) = wsum (adW v X) + wsum (adW v Y) + T + wsum (segB u sp dp fl 0 d) + C by omega]
theorem gK_range {v u : Bool} {X Y sg : List UInt8} (hX : X.length = 16) (hY : Y.length = 16) : 0 < gK v u X Y sg := by
  obtain ⟨T, hT, e⟩ := wsum_ps v u sg.length hX hY
  have := wsum_range (adW v X)
  have := wsum_range (adW v Y)
  have := wsum_range sg
  unfold gK; rw [e X Y hX hY]; omega
/-- What it is to others. -/
theorem gK_to {v u : Bool} {X Y X' Y' d : List UInt8} {sp dp sp' dp' : Int} {fl : UInt8} (hX : X.length = 16) (hY : Y.length = 16) (hX' : X'.length = 16) (hY' : Y'.length = 16) (h : 0 ≤ sp ∧ sp < 65536) (h' : 0 ≤ sp' ∧ sp' < 65536) (g : 0 ≤ dp ∧ dp < 65536) (g' : 0 ≤ dp' ∧ dp' < 65536) :
    gK v u X' Y' (segB u sp' dp' fl 0 d) = gK v u X Y (segB u sp dp fl 0 d) + (wsum (adW v X') - wsum (adW v X)) + (wsum (adW v Y') - wsum (adW v Y)) + (sp' - sp) + (dp' - dp) := by
  have hl : (segB u sp' dp' fl 0 d).length = (segB u sp dp fl 0 d).length := by rw [segB_length, segB_length]
  obtain ⟨T, hT, e⟩ := wsum_ps v u (segB u sp dp fl 0 d).length hX hY
  unfold gK
  rw [hl, e X Y hX hY, e X' Y' hX' hY', wsum_segP (u := u) (sp := sp) (dp := dp) (fl := fl) (C := 0) (d := d) h h' g g']
  omega

/-- The checksum to another port and address. -/
def pC (u : Bool) (C dp to : Int) (A B : List UInt8) : Int := if u = true ∧ C = 0 then 0 else if u = true ∧ changeI (updI C dp to) A B = 0 then 65535 else changeI (updI C dp to) A B
theorem pC_range {u : Bool} {C dp to : Int} {A B : List UInt8} : 0 ≤ pC u C dp to A B ∧ pC u C dp to A B < 65536 := by
  have := changeI_range A B (updI_range C dp to)
  unfold pC; split
  · omega
  · split <;> omega
theorem updI_mod {o f t : Int} (ho : 0 ≤ o ∧ o < 65536) (hf : 0 ≤ f ∧ f < 65536) (ht : 0 ≤ t ∧ t < 65536) : (updI o f t - (o + f - t)) % 65535 = 0 := by
  have := foldI_mod (n := (65535 - o) + (65535 - f) + t) (by omega)
  have := foldI_range ((65535 - o) + (65535 - f) + t)
  unfold updI; omega
theorem adW_len {v : Bool} {X : List UInt8} (hX : X.length = 16) : (adW v X).length = if v = true then 16 else 4 := by cases v <;> simp [adW, hX]
theorem adW_B {v : Bool} {X : List UInt8} : adrBytes (.bool v :: bys X) = adW v X := by
  cases v
  · rw [adrB_F]; rfl
  · rw [adrB_T]; rfl
theorem pC_mod {v u : Bool} {C dp to : Int} {X Y : List UInt8} (hX : X.length = 16) (hY : Y.length = 16) (hC : 0 ≤ C ∧ C < 65536) (hd : 0 ≤ dp ∧ dp < 65536) (ht : 0 ≤ to ∧ to < 65536) (h0 : ¬ (u = true ∧ C = 0)) :
    (pC u C dp to (adW v X) (adW v Y) - (C + dp - to + wsum (adW v X) - wsum (adW v Y))) % 65535 = 0 ∧ ¬ (u = true ∧ pC u C dp to (adW v X) (adW v Y) = 0) := by
  have lX := adW_len (v := v) hX
  have lY := adW_len (v := v) hY
  have h1 := updI_mod hC hd ht
  have hr := updI_range C dp to
  have he : (adW v X).length = (adW v Y).length ∧ (adW v X).length % 2 = 0 := by rw [lX, lY]; refine ⟨rfl, ?_⟩; split <;> rfl
  have h2 := chgI_mod (adW v X) (adW v Y) (updI C dp to) he.1 he.2 hr
  have h3 : changeI (updI C dp to) (adW v X) (adW v Y) = chgI (updI C dp to) (adW v X) (adW v Y) := if_pos he
  have h4 := changeI_range (adW v X) (adW v Y) hr
  unfold pC
  rw [if_neg h0]
  split
  · rename_i hc
    refine ⟨?_, by omega⟩
    rw [h3] at hc; omega
  · rename_i hc
    refine ⟨?_, fun h => hc h⟩
    rw [h3]; omega
theorem portL_segB {v u : Bool} {X Y d : List UInt8} {sp dp C to : Int} {fl : UInt8} (hX : X.length = 16) (hY : Y.length = 16) (hd : d.length ≤ 65000) (hC : 0 ≤ C ∧ C < 65536) (hdp : 0 ≤ dp ∧ dp < 65536) (hto : 0 ≤ to ∧ to < 65536) :
    portL (prt u) (segB u sp dp fl C d) to (.bool v :: bys X) (.bool v :: bys Y) = segB u sp to fl (pC u C dp to (adW v X) (adW v Y)) d := by
  have f6 : ∀ x : Int, x.fdiv 256 = x / 256 := fun x => Int.fdiv_eq_ediv_of_nonneg _ (by omega)
  have h2 := segB_word2 (u := u) (sp := sp) (fl := fl) (C := C) (d := d) hdp
  have hs := segB_sum (u := u) (sp := sp) (dp := dp) (fl := fl) (d := d) hC
  have hl := segB_length u sp dp fl C d
  have e1 : putR (segB u sp dp fl C d) 2 2 to = segB u sp to fl C d := by
    rw [show (2 : Int) = ((2 : Nat) : Int) from rfl, putR_two (by rw [hl]; cases u <;> simp [hdn] <;> omega), f6]
    cases u <;> rfl
  unfold portL
  rw [if_pos ⟨segR_segB hd, rfl⟩, e1, adW_B, adW_B]
  cases u
  · have e2 : ∀ c : Int, putR (segB false sp to fl C d) 16 2 c = segB false sp to fl c d := fun c => by
      rw [show (16 : Int) = ((16 : Nat) : Int) from rfl, putR_two (by rw [segB_length]; simp [hdn] <;> omega), f6]; rfl
    rw [if_neg (fun h => absurd h.1 (by decide)), if_neg (fun h => absurd h.1 (by decide))]
    have hp : portC (prt false) (segB false sp dp fl C d) to (adW v X) (adW v Y) = changeI (updI C dp to) (adW v X) (adW v Y) := by
      show changeI (updI (word (segB false sp dp fl C d) 16) (word (segB false sp dp fl C d) 2) to) _ _ = _
      rw [h2]; rw [show word (segB false sp dp fl C d) 16 = C from hs]
    rw [hp]
    unfold pC
    rw [if_neg (by simp), if_neg (by simp)]
    exact e2 _
  · have e2 : ∀ c : Int, putR (segB true sp to fl C d) 6 2 c = segB true sp to fl c d := fun c => by
      rw [show (6 : Int) = ((6 : Nat) : Int) from rfl, putR_two (by rw [segB_length]; simp [hdn] <;> omega), f6]; rfl
    have hs' : word (segB true sp dp fl C d) 6 = C := hs
    have hp : portC (prt true) (segB true sp dp fl C d) to (adW v X) (adW v Y) = changeI (updI C dp to) (adW v X) (adW v Y) := by
      show changeI (updI (word (segB true sp dp fl C d) 6) (word (segB true sp dp fl C d) 2) to) _ _ = _
      rw [h2, hs']
    rw [hp, hs']
    unfold pC
    by_cases hz : C = 0
    · rw [if_pos (show prt true = 17 ∧ C = 0 from ⟨rfl, hz⟩), if_pos (show true = true ∧ C = 0 from ⟨rfl, hz⟩), hz]
    · rw [if_neg (show ¬ (prt true = 17 ∧ C = 0) from fun h => hz h.2), if_neg (show ¬ (true = true ∧ C = 0) from fun h => hz h.2)]
      by_cases hc : changeI (updI C dp to) (adW v X) (adW v Y) = 0
      · rw [if_pos (show prt true = 17 ∧ changeI (updI C dp to) (adW v X) (adW v Y) = 0 from ⟨rfl, hc⟩), if_pos (show true = true ∧ changeI (updI C dp to) (adW v X) (adW v Y) = 0 from ⟨rfl, hc⟩)]; exact e2 _
      · rw [if_neg (show ¬ (prt true = 17 ∧ changeI (updI C dp to) (adW v X) (adW v Y) = 0) from fun h => hc h.2), if_neg (show ¬ (true = true ∧ changeI (updI C dp to) (adW v X) (adW v Y) = 0) from fun h => hc h.2)]; exact e2 _

/-! ### What was built -/

theorem okS (v : Bool) (n : Int) : okY v (kSrcB n) := ⟨rfl, fun _ => rfl⟩
theorem okD (v : Bool) : okY v kDstB := ⟨rfl, fun _ => rfl⟩
theorem bldH_ip (v u : Bool) (n : Int) {L : Nat} (hL : L ≤ 65000) : ∃ C0, (0 ≤ C0 ∧ C0 < 65536) ∧ bldH v u n L = ipH v (prt u) L C0 (kSrcB n) kDstB ∧ (v = false → chkI (ipH false (prt u) L C0 (kSrcB n) kDstB) = 0) := by
  cases v
  · have mk := (pkO_make (n := L) (pr := prt u) (X := kSrcB n) (Y := kDstB) (S := (kSrcB n).take 4) (D := kDstB.take 4) (by omega) rfl rfl).2 rfl rfl
    refine ⟨_, chkI_range _, ?_, fun _ => hdO_make (w := 0) (L := 20 + L) (p := u8i (prt u)) (O := []) (by omega) rfl rfl⟩
    show make4 (kSrc false n) (kDst false) (prt u) L = _
    rw [kSrc_B, kDst_B, mk]; rfl
  · refine ⟨0, by omega, ?_, fun h => by simp at h⟩
    show make6 (kSrc true n) (kDst true) (prt u) L = _
    rw [kSrc_B, kDst_B]
    unfold make6
    rw [if_pos ⟨rfl, rfl, by omega, by omega⟩, adrB_T, adrB_T]
    rfl
theorem bldF_frm (v u tag bare : Bool) (n : Int) (fl : UInt8) (d : List UInt8) (pad : Nat) (hd : d.length ≤ 2000) : ∃ C0, (0 ≤ C0 ∧ C0 < 65536) ∧ bldF v u tag bare n fl d pad = frm v tag (prt u) C0 (kSrcB n) kDstB (bldG v u bare n fl d) (List.replicate pad 0) ∧
    (v = false → chkI (ipH false (prt u) (bldG v u bare n fl d).length C0 (kSrcB n) kDstB) = 0) := by
  have hl : (bldG v u bare n fl d).length = hdn u + d.length := segB_length _ _ _ _ _ _
  obtain ⟨C0, h0, h1, h2⟩ := bldH_ip v u n (L := hdn u + d.length) (by cases u <;> simp [hdn] <;> omega)
  refine ⟨C0, h0, ?_, fun h => by rw [hl]; exact h2 h⟩
  unfold bldF frm
  rw [hl, h1, List.append_assoc, List.append_assoc]
theorem kport_r (n : Int) : 0 ≤ kport n ∧ kport n < 65536 := by have := kport_range n; omega
theorem bldF_read (v u tag bare : Bool) (n : Int) (fl : UInt8) (d : List UInt8) (pad : Nat) (hd : d.length ≤ 2000) (hp : pad ≤ 100) :
    readR (bldF v u tag bare n fl d pad) = 0 ∧ rdG (bldF v u tag bare n fl d pad) = bldG v u bare n fl d ∧
    vRead (bldF v u tag bare n fl d pad) = .tup [.agg (viewOf v (frA tag) (frA tag + frH v : Nat) (frA tag + frH v + (hdn u + d.length) : Nat) (prt u) (kSrc v n) (kDst v) (kport n) 80 (if u = true then 0 else (fl.toNat : Int))), .int .i64 0] := by
  have hl : (bldG v u bare n fl d).length = hdn u + d.length := segB_length _ _ _ _ _ _
  have hh : hdn u ≤ 20 := by cases u <;> decide
  have hA : frA tag ≤ 18 := by cases tag <;> decide
  have hH : frH v ≤ 40 := by cases v <;> decide
  obtain ⟨C0, h0, h1, h2⟩ := bldF_frm v u tag bare n fl d pad hd
  have hl2 : (segB u (kport n) 80 fl (bldC v u bare n fl d) d).length = hdn u + d.length := hl
  have h := frm_read (tag := tag) (pd := List.replicate pad 0) (okS v n) (okD v) (by omega) (by rw [List.length_replicate]; omega) (fun e => by subst e; exact h2 rfl) (segR_segB (u := u) (sp := kport n) (dp := 80) (fl := fl) (C := bldC v u bare n fl d) (d := d) (by omega))
  have hw0 := segB_word0 (u := u) (dp := 80) (fl := fl) (C := bldC v u bare n fl d) (d := d) (kport_r n)
  have hw2 := segB_word2 (u := u) (sp := kport n) (fl := fl) (C := bldC v u bare n fl d) (d := d) (dp := 80) (by omega)
  have hf := segF_segB (u := u) (sp := kport n) (dp := 80) (fl := fl) (C := bldC v u bare n fl d) (d := d) (by omega)
  change _ ∧ _ ∧ vRead (frm v tag (prt u) C0 (kSrcB n) kDstB (bldG v u bare n fl d) (List.replicate pad 0)) = _ at h
  rw [h1]
  obtain ⟨g1, g2, g3⟩ := h
  refine ⟨g1, g2, ?_⟩
  rw [g3, kSrc_B, kDst_B]
  change word (bldG v u bare n fl d) 0 = _ at hw0
  change word (bldG v u bare n fl d) 2 = _ at hw2
  change segF (prt u) (bldG v u bare n fl d) = _ at hf
  change AV.tup [.agg (viewOf v _ _ ((frA tag + frH v + (bldG v u bare n fl d).length : Nat) : Int) _ _ _ (word (bldG v u bare n fl d) 0) (word (bldG v u bare n fl d) 2) (segF (prt u) (bldG v u bare n fl d))), .int .i64 0] = _
  rw [hw0, hw2, hf, hl]
/-- What it was built with is right. -/
theorem bldC_ok (v u bare : Bool) (n : Int) (fl : UInt8) (d : List UInt8) : (u = true ∧ bare = true ∧ bldC v u bare n fl d = 0) ∨ (¬ (u = true ∧ bldC v u bare n fl d = 0) ∧ (gK v u (kSrcB n) kDstB (segB u (kport n) 80 fl 0 d) + bldC v u bare n fl d) % 65535 = 0) := by
  by_cases hb : u = true ∧ bare = true
  · left; refine ⟨hb.1, hb.2, ?_⟩; unfold bldC; rw [if_pos hb]
  · right
    have hl : (segB u (kport n) 80 fl 0 d).length = hdn u + d.length := segB_length _ _ _ _ _ _
    have hK := gK_range (v := v) (u := u) (sg := segB u (kport n) 80 fl 0 d) (X := kSrcB n) (Y := kDstB) rfl rfl
    have hev : (pseudoL (prt u) ((hdn u + d.length : Nat) : Int) (kSrc v n) (kDst v)).length % 2 = 0 := by
      rw [kSrc_B, kDst_B]
      unfold pseudoL
      cases v
      · rw [adrB_F, adrB_F, if_neg (by simp [adrV6]), bigR8_2]; simp [kSrcB, kDstB]
      · rw [adrB_T, adrB_T, if_pos (by simp [adrV6]), bigR8_4]; simp [kSrcB, kDstB]
    have e : bldS v u n fl d = foldI (gK v u (kSrcB n) kDstB (segB u (kport n) 80 fl 0 d)) := by
      unfold bldS sumI gK
      rw [wsum_append _ _ hev, kSrc_B, kDst_B, hl, Int.zero_add]
    have h1 := foldI_mod (n := gK v u (kSrcB n) kDstB (segB u (kport n) 80 fl 0 d)) (by omega)
    have h2 := foldI_range (gK v u (kSrcB n) kDstB (segB u (kport n) 80 fl 0 d))
    have h3 : 0 < foldI (gK v u (kSrcB n) kDstB (segB u (kport n) 80 fl 0 d)) := by unfold foldI; rw [if_neg (by omega)]; omega
    unfold bldC
    rw [if_neg hb, e]
    split
    · exact ⟨by omega, by omega⟩
    · rename_i hc
      refine ⟨fun h => hc ⟨h.1, h.2⟩, by omega⟩

def sumP (u : Bool) : Nat := if u = true then 6 else 16
theorem segB_set (u : Bool) (sp dp : Int) (fl : UInt8) (C : Int) (d : List UInt8) : segB u sp dp fl C d = ((segB u sp dp fl 0 d).set (sumP u) (u8i (C / 256))).set (sumP u + 1) (u8i C) := by cases u <;> rfl
theorem segB_byt {u : Bool} {sp dp : Int} {fl : UInt8} {C : Int} {d : List UInt8} (i : Nat) (hC : 0 ≤ C ∧ C < 65536) : byt (segB u sp dp fl C d) i = if i = sumP u + 1 then C % 256 else if i = sumP u then C / 256 else byt (segB u sp dp fl 0 d) i := by
  have hl := segB_length u sp dp fl 0 d
  have h1 : sumP u + 1 < (segB u sp dp fl 0 d).length := by rw [hl]; cases u <;> simp [sumP, hdn] <;> omega
  rw [segB_set, byt_set (by simpa using h1), byt_set (by omega), u8i_toNat, u8i_toNat]
  split
  · rfl
  · split
    · omega
    · rfl
/-- Other ports and checksums are other bytes there alone. -/
theorem segB_goes {u : Bool} {sp dp dp' : Int} {fl : UInt8} {C C' : Int} {d : List UInt8} (hC : 0 ≤ C ∧ C < 65536) (hC' : 0 ≤ C' ∧ C' < 65536) (i : Nat) :
    byt (segB u sp dp fl C d) i = byt (segB u sp dp' fl C' d) i ∨ i = 2 ∨ i = 3 ∨ i = sumP u ∨ i = sumP u + 1 := by
  rw [segB_byt i hC, segB_byt i hC']
  by_cases h1 : i = sumP u + 1
  · exact .inr (.inr (.inr (.inr h1)))
  by_cases h2 : i = sumP u
  · exact .inr (.inr (.inr (.inl h2)))
  by_cases h3 : i = 2
  · exact .inr (.inl h3)
  by_cases h4 : i = 3
  · exact .inr (.inr (.inl h4))
  left
  rw [if_neg h1, if_neg h1, if_neg h2, if_neg h2]
  have e : segB u sp dp' fl 0 d = ((segB u sp dp fl 0 d).set 2 (u8i (dp' / 256))).set 3 (u8i dp') := by cases u <;> rfl
  have hl := segB_length u sp dp fl 0 d
  have hh : 8 ≤ hdn u := by cases u <;> decide
  rw [e, byt_set (by simp; omega), byt_set (by omega), if_neg h4, if_neg h3]
/-- Another source port, by a bit of it. -/
theorem segB_flip {u : Bool} {sp dp : Int} {fl : UInt8} {C : Int} {d : List UInt8} (hs : 0 ≤ sp ∧ sp < 65536) (r : Nat) (hr : r = 0 ∨ r = 1) :
    ∃ sp', (0 ≤ sp' ∧ sp' < 65536) ∧ (segB u sp dp fl C d).set r (u8i (abits .u8 (· ^^^ ·) (byt (segB u sp dp fl C d) r) 4)) = segB u sp' dp fl C d ∧ (sp' - sp) % 65535 ≠ 0 := by
  rcases hr with rfl | rfl
  · have hb : byt (segB u sp dp fl C d) 0 = sp / 256 := by
      have e : byt (segB u sp dp fl C d) 0 = ((u8i (sp / 256)).toNat : Int) := by cases u <;> rfl
      rw [e, u8i_toNat]; omega
    rw [hb]
    obtain ⟨x, e, hx, hq⟩ := flip_byte (x := sp / 256) (q := 2) (by omega) (by decide)
    have e2 : abits .u8 (· ^^^ ·) (sp / 256) 4 = sp / 256 + x := e
    refine ⟨(sp / 256 + x) * 256 + sp % 256, by omega, ?_, by omega⟩
    rw [e2]
    have h1 : u8i (((sp / 256 + x) * 256 + sp % 256) / 256) = u8i (sp / 256 + x) := by congr 1; omega
    have h2 : u8i ((sp / 256 + x) * 256 + sp % 256) = u8i sp := u8i_mod (by omega)
    cases u
    · show _ = tcpH _ _ _ _ ++ d
      unfold tcpH; rw [h1, h2]; rfl
    · show _ = udpH _ _ _ _ ++ d
      unfold udpH; rw [h1, h2]; rfl
  · have hb : byt (segB u sp dp fl C d) 1 = sp % 256 := by
      have e : byt (segB u sp dp fl C d) 1 = ((u8i sp).toNat : Int) := by cases u <;> rfl
      rw [e, u8i_toNat]
    rw [hb]
    obtain ⟨x, e, hx, hq⟩ := flip_byte (x := sp % 256) (q := 2) (by omega) (by decide)
    have e2 : abits .u8 (· ^^^ ·) (sp % 256) 4 = sp % 256 + x := e
    refine ⟨sp / 256 * 256 + (sp % 256 + x), by omega, ?_, by omega⟩
    rw [e2]
    have h1 : u8i ((sp / 256 * 256 + (sp % 256 + x)) / 256) = u8i (sp / 256) := by congr 1; omega
    have h2 : u8i (sp / 256 * 256 + (sp % 256 + x)) = u8i (sp % 256 + x) := u8i_mod (by omega)
    cases u
    · show _ = tcpH _ _ _ _ ++ d
      unfold tcpH; rw [h1, h2]; rfl
    · show _ = udpH _ _ _ _ ++ d
      unfold udpH; rw [h1, h2]; rfl
/-- Good segments stay good; odd ones odd. -/
theorem good_to {v u : Bool} {X Y Y' d : List UInt8} {sp sp' dp dp' C : Int} {fl : UInt8} (hX : X.length = 16) (hY : Y.length = 16) (hY' : Y'.length = 16) (hd : d.length ≤ 65000) (hs : 0 ≤ sp ∧ sp < 65536) (hs' : 0 ≤ sp' ∧ sp' < 65536) (g : 0 ≤ dp ∧ dp < 65536) (g' : 0 ≤ dp' ∧ dp' < 65536) (hC : 0 ≤ C ∧ C < 65536)
    (hz : ¬ (u = true ∧ C = 0)) (hg : (gK v u X Y (segB u sp dp fl 0 d) + C) % 65535 = 0) :
    goodS (prt u) (segB u sp' dp fl C d) (.bool v :: bys X) (.bool v :: bys Y) = decide ((sp' - sp) % 65535 = 0) ∧
    goodS (prt u) (segB u sp' dp' fl (pC u C dp dp' (adW v Y) (adW v Y')) d) (.bool v :: bys X) (.bool v :: bys Y') = decide ((sp' - sp) % 65535 = 0) := by
  have hm := pC_mod (v := v) (u := u) (X := Y) (Y := Y') hY hY' hC g g' hz
  have hr := pC_range (u := u) (C := C) (dp := dp) (to := dp') (A := adW v Y) (B := adW v Y')
  rw [goodS_segB hX hY hC hd, goodS_segB hX hY' hr hd, decide_eq_false hz, decide_eq_false hm.2, Bool.false_or, Bool.false_or]
  have k1 := gK_to (v := v) (u := u) (X := X) (Y := Y) (X' := X) (Y' := Y) (d := d) (fl := fl) hX hY hX hY hs hs' g g
  have k2 := gK_to (v := v) (u := u) (X := X) (Y := Y) (X' := X) (Y' := Y') (d := d) (fl := fl) hX hY hX hY' hs hs' g g'
  refine ⟨decide_eq_decide.2 ?_, decide_eq_decide.2 ?_⟩ <;> omega

end Go.Proofs.Ytmlenlfhciapfaa.L
