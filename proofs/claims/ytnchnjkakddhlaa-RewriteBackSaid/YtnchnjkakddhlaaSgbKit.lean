/- Segments that were built: how they are read, their sums, another port and address. -/
import Derived.Test.YtnchnjkakddhlaaFrmKit
set_option autoImplicit false
set_option linter.unusedVariables false
set_option linter.unusedSimpArgs false
namespace Go.Proofs.Ytnchnjkakddhlaa.L
open Go Go.Abs

def adW (v : Bool) (Y : List UInt8) : List UInt8 := if v = true then Y else Y.take 4
theorem zAO {x : Int} (h : 0 ≤ x ∧ x < 65536) : ((u8i (x / 256)).toNat : Int) * 256 + ((u8i x).toNat : Int) = x := by
 rw [zaG, zaG]; omega
theorem zo3 {u : Bool} {sp dp : Int} {fl : UInt8} {C : Int} {d : List UInt8} (h : 0 ≤ sp ∧ sp < 65536) : zan (zbU u sp dp fl C d) 0 = sp := by
 cases u <;> exact zAO h
theorem zhW {u : Bool} {sp dp : Int} {fl : UInt8} {C : Int} {d : List UInt8} (h : 0 ≤ dp ∧ dp < 65536) : zan (zbU u sp dp fl C d) 2 = dp := by
 cases u <;> exact zAO h
theorem zot {u : Bool} {sp dp : Int} {fl : UInt8} {C : Int} {d : List UInt8} (h : 0 ≤ C ∧ C < 65536) : zan (zbU u sp dp fl C d) (if u = true then 6 else 16) = C := by
 cases u <;> exact zAO h
theorem zhi {u : Bool} {sp dp : Int} {fl : UInt8} {C : Int} {d : List UInt8} (hd : d.length ≤ 65000) : zbW (prt u) (zbU u sp dp fl C d) = 0 := by
 have hl := zaQ u sp dp fl C d
 cases u
 · have b : byt (zbU false sp dp fl C d) 12 = 80 := by show ((80 : UInt8).toNat : Int) = 80; decide
   unfold zbW
   have hl2 : (zbU false sp dp fl C d).length = 20 + d.length := hl
   rw [if_pos (show prt false = 6 from rfl), b, hl2, if_neg (by omega), if_neg (by decide), if_neg (by omega)]
 · have b : zan (zbU true sp dp fl C d) 4 = 8 + d.length := by
     exact zAO (x := 8 + d.length) (by omega)
   unfold zbW
   have hl2 : (zbU true sp dp fl C d).length = 8 + d.length := hl
   rw [if_neg (show ¬ prt true = 6 by decide), if_pos (show prt true = 17 from rfl), b, hl2, if_neg (by omega), if_neg (by omega), if_neg (by omega)]
theorem zqS {u : Bool} {sp dp : Int} {fl : UInt8} {C : Int} {d : List UInt8} (hd : d.length ≤ 65000) : zca (prt u) (zbU u sp dp fl C d) = if u = true then 0 else (fl.toNat : Int) := by
 have h := zhi (u := u) (sp := sp) (dp := dp) (fl := fl) (C := C) hd
 cases u
 · unfold zca zho; rw [if_pos (show prt false = 6 from rfl), if_pos h]; rfl
 · unfold zca; rw [if_neg (show ¬ prt true = 6 by decide)]; rfl

theorem zrW {u : Bool} {sp dp : Int} {fl : UInt8} {C : Int} {d : List UInt8} (h : 0 ≤ C ∧ C < 65536) : zbi (zbU u sp dp fl C d) = zbi (zbU u sp dp fl 0 d) + C := by
 have h1 := zaG (C / 256)
 have h2 := zaG C
 have h3 : ((u8i (0 / 256)).toNat : Int) = 0 := by decide
 have h4 : ((u8i 0).toNat : Int) = 0 := by decide
 cases u
 · show zbi (zaZ sp dp fl C ++ d) = zbi (zaZ sp dp fl 0 ++ d) + C
   rw [zaV _ _ (by simp [zaZ, zaY]), zaV _ _ (by simp [zaZ, zaY])]
   unfold zaZ
   simp only [zbi]
   omega
 · show zbi (zaY sp dp (8 + d.length) C ++ d) = zbi (zaY sp dp (8 + d.length) 0 ++ d) + C
   rw [zaV _ _ (by simp [zaZ, zaY]), zaV _ _ (by simp [zaZ, zaY])]
   unfold zaY
   simp only [zbi]
   omega
theorem ztL {u : Bool} {sp dp sp' dp' : Int} {fl : UInt8} {C : Int} {d : List UInt8} (h : 0 ≤ sp ∧ sp < 65536) (h' : 0 ≤ sp' ∧ sp' < 65536) (g : 0 ≤ dp ∧ dp < 65536) (g' : 0 ≤ dp' ∧ dp' < 65536) :
 zbi (zbU u sp' dp' fl C d) = zbi (zbU u sp dp fl C d) + (sp' - sp) + (dp' - dp) := by
 have h1 := zaG (sp / 256)
 have h2 := zaG sp
 have h3 := zaG (dp / 256)
 have h4 := zaG dp
 have h5 := zaG (sp' / 256)
 have h6 := zaG sp'
 have h7 := zaG (dp' / 256)
 have h8 := zaG dp'
 cases u
 · show zbi (zaZ sp' dp' fl C ++ d) = zbi (zaZ sp dp fl C ++ d) + (sp' - sp) + (dp' - dp)
   rw [zaV _ _ (by simp [zaZ, zaY]), zaV _ _ (by simp [zaZ, zaY])]
   unfold zaZ
   simp only [zbi]
   omega
 · show zbi (zaY sp' dp' (8 + d.length) C ++ d) = zbi (zaY sp dp (8 + d.length) C ++ d) + (sp' - sp) + (dp' - dp)
   rw [zaV _ _ (by simp [zaZ, zaY]), zaV _ _ (by simp [zaZ, zaY])]
   unfold zaY
   simp only [zbi]
   omega

theorem zr2 {n : Int} (h : 0 < n) : zcE n = 65535 ↔ n % 65535 = 0 := by unfold zcE; rw [if_neg (by omega)]; omega
def gK (v u : Bool) (X Y sg0 : List UInt8) : Int := zbi (zav (prt u) sg0.length (.bool v :: bys X) (.bool v :: bys Y)) + zbi sg0
theorem znp (v u : Bool) (n : Int) {X Y : List UInt8} (hX : X.length = 16) (hY : Y.length = 16) :
 ∃ T : Int, 0 < T ∧ ∀ X Y : List UInt8, X.length = 16 → Y.length = 16 → zbi (zav (prt u) n (.bool v :: bys X) (.bool v :: bys Y)) = zbi (adW v X) + zbi (adW v Y) + T := by
 have hp := (zye u).2.2.1
 have hp0 : 0 < prt u := by cases u <;> decide
 have e1 : n.fdiv 1 = n := by rw [Int.fdiv_eq_ediv_of_nonneg _ (by omega), Int.ediv_one]
 cases v
 · refine ⟨zbi ([0, u8i (prt u)] ++ ziA n 2), ?_, fun X Y hX hY => ?_⟩
   · rw [zc9]
     simp only [zbi, List.cons_append, List.nil_append]
     omega
   · unfold zav adW
     rw [zcF, zcF, if_neg (by simp [za8]), if_neg (by decide), if_neg (by decide), zaV _ _ (by simp [hX, hY]), zaV _ _ (by simp [hX])]
 · refine ⟨zbi (ziA n 4 ++ [0, 0, 0, u8i (prt u)]), ?_, fun X Y hX hY => ?_⟩
   · rw [zdi]
     simp only [zbi, List.cons_append, List.nil_append]
     omega
   · unfold zav adW
     rw [zbY, zbY, if_pos (by simp [za8]), if_pos rfl, if_pos rfl, zaV _ _ (by simp [hX, hY]), zaV _ _ (by simp [hX])]
theorem zhy {v u : Bool} {X Y d : List UInt8} {sp dp C : Int} {fl : UInt8} (hX : X.length = 16) (hY : Y.length = 16) (hC : 0 ≤ C ∧ C < 65536) (hd : d.length ≤ 65000) :
 zfy (prt u) (zbU u sp dp fl C d) (.bool v :: bys X) (.bool v :: bys Y) = (decide (u = true ∧ C = 0) || decide ((gK v u X Y (zbU u sp dp fl 0 d) + C) % 65535 = 0)) := by
 have hl : (zbU u sp dp fl C d).length = (zbU u sp dp fl 0 d).length := by rw [zaQ, zaQ]
 have hw := zrW (u := u) (sp := sp) (dp := dp) (fl := fl) (d := d) hC
 have w0 := za1 (zbU u sp dp fl 0 d)
 obtain ⟨T, hT, e⟩ := znp v u (zbU u sp dp fl 0 d).length hX hY
 have wX := za1 (adW v X)
 have wY := za1 (adW v Y)
 have hps := e X Y hX hY
 unfold zfy
 rw [decide_eq_true (show zbW (prt u) (zbU u sp dp fl C d) = 0 ∧ za8 (AV.bool v :: bys X) = za8 (AV.bool v :: bys Y) from ⟨zhi hd, rfl⟩), Bool.true_and, hl]
 congr 1
 · have : (prt u = 17 ∧ zan (zbU u sp dp fl C d) 6 = 0) ↔ (u = true ∧ C = 0) := by
     cases u
     · exact ⟨fun h => absurd h.1 (by decide), fun h => absurd h.1 (by decide)⟩
     · have := zot (u := true) (sp := sp) (dp := dp) (fl := fl) (d := d) hC
       change zan (zbU true sp dp fl C d) 6 = C at this
       rw [this]; exact ⟨fun h => ⟨rfl, h.2⟩, fun h => ⟨rfl, h.2⟩⟩
   exact decide_eq_decide.2 this
 · apply decide_eq_decide.2
   unfold zfX gK
   rw [hw, hps, show (0 : Int) + (zbi (adW v X) + zbi (adW v Y) + T) = zbi (adW v X) + zbi (adW v Y) + T by omega, zl6 (by omega) (by omega), zr2 (by omega)]
   rw [show zbi (adW v X) + zbi (adW v Y) + T + (zbi (zbU u sp dp fl 0 d) + C) = zbi (adW v X) + zbi (adW v Y) + T + zbi (zbU u sp dp fl 0 d) + C by omega]
theorem zvl {v u : Bool} {X Y sg : List UInt8} (hX : X.length = 16) (hY : Y.length = 16) : 0 < gK v u X Y sg := by
 obtain ⟨T, hT, e⟩ := znp v u sg.length hX hY
 have := za1 (adW v X)
 have := za1 (adW v Y)
 have := za1 sg
 unfold gK; rw [e X Y hX hY]; omega
theorem zyE {v u : Bool} {X Y X' Y' d : List UInt8} {sp dp sp' dp' : Int} {fl : UInt8} (hX : X.length = 16) (hY : Y.length = 16) (hX' : X'.length = 16) (hY' : Y'.length = 16) (h : 0 ≤ sp ∧ sp < 65536) (h' : 0 ≤ sp' ∧ sp' < 65536) (g : 0 ≤ dp ∧ dp < 65536) (g' : 0 ≤ dp' ∧ dp' < 65536) :
 gK v u X' Y' (zbU u sp' dp' fl 0 d) = gK v u X Y (zbU u sp dp fl 0 d) + (zbi (adW v X') - zbi (adW v X)) + (zbi (adW v Y') - zbi (adW v Y)) + (sp' - sp) + (dp' - dp) := by
 have hl : (zbU u sp' dp' fl 0 d).length = (zbU u sp dp fl 0 d).length := by rw [zaQ, zaQ]
 obtain ⟨T, hT, e⟩ := znp v u (zbU u sp dp fl 0 d).length hX hY
 unfold gK
 rw [hl, e X Y hX hY, e X' Y' hX' hY', ztL (u := u) (sp := sp) (dp := dp) (fl := fl) (C := 0) (d := d) h h' g g']
 omega

def pC (u : Bool) (C dp to : Int) (A B : List UInt8) : Int := if u = true ∧ C = 0 then 0 else if u = true ∧ zaR (zfJ C dp to) A B = 0 then 65535 else zaR (zfJ C dp to) A B
theorem ziE {u : Bool} {C dp to : Int} {A B : List UInt8} : 0 ≤ pC u C dp to A B ∧ pC u C dp to A B < 65536 := by
 have := zbI A B (zcZ C dp to)
 unfold pC; split
 · omega
 · split <;> omega
theorem zvJ {o f t : Int} (ho : 0 ≤ o ∧ o < 65536) (hf : 0 ≤ f ∧ f < 65536) (ht : 0 ≤ t ∧ t < 65536) : (zfJ o f t - (o + f - t)) % 65535 = 0 := by
 have := zgX (n := (65535 - o) + (65535 - f) + t) (by omega)
 have := zcR ((65535 - o) + (65535 - f) + t)
 unfold zfJ; omega
theorem ztQ {v : Bool} {X : List UInt8} (hX : X.length = 16) : (adW v X).length = if v = true then 16 else 4 := by cases v <;> simp [adW, hX]
theorem zzo {v : Bool} {X : List UInt8} : zag (.bool v :: bys X) = adW v X := by
 cases v
 · rw [zcF]; rfl
 · rw [zbY]; rfl
theorem zh8 {v u : Bool} {C dp to : Int} {X Y : List UInt8} (hX : X.length = 16) (hY : Y.length = 16) (hC : 0 ≤ C ∧ C < 65536) (hd : 0 ≤ dp ∧ dp < 65536) (ht : 0 ≤ to ∧ to < 65536) (h0 : ¬ (u = true ∧ C = 0)) :
 (pC u C dp to (adW v X) (adW v Y) - (C + dp - to + zbi (adW v X) - zbi (adW v Y))) % 65535 = 0 ∧ ¬ (u = true ∧ pC u C dp to (adW v X) (adW v Y) = 0) := by
 have lX := ztQ (v := v) hX
 have lY := ztQ (v := v) hY
 have h1 := zvJ hC hd ht
 have hr := zcZ C dp to
 have he : (adW v X).length = (adW v Y).length ∧ (adW v X).length % 2 = 0 := by rw [lX, lY]; refine ⟨rfl, ?_⟩; split <;> rfl
 have h2 := ziq (adW v X) (adW v Y) (zfJ C dp to) he.1 he.2 hr
 have h3 : zaR (zfJ C dp to) (adW v X) (adW v Y) = zhD (zfJ C dp to) (adW v X) (adW v Y) := if_pos he
 have h4 := zbI (adW v X) (adW v Y) hr
 unfold pC
 rw [if_neg h0]
 split
 · rename_i hc
   refine ⟨?_, by omega⟩
   rw [h3] at hc; omega
 · rename_i hc
   refine ⟨?_, fun h => hc h⟩
   rw [h3]; omega
theorem zps {v u : Bool} {X Y d : List UInt8} {sp dp C to : Int} {fl : UInt8} (hX : X.length = 16) (hY : Y.length = 16) (hd : d.length ≤ 65000) (hC : 0 ≤ C ∧ C < 65536) (hdp : 0 ≤ dp ∧ dp < 65536) (hto : 0 ≤ to ∧ to < 65536) :
 zdL (prt u) (zbU u sp dp fl C d) to (.bool v :: bys X) (.bool v :: bys Y) = zbU u sp to fl (pC u C dp to (adW v X) (adW v Y)) d := by
 have f6 : ∀ x : Int, x.fdiv 256 = x / 256 := fun x => Int.fdiv_eq_ediv_of_nonneg _ (by omega)
 have h2 := zhW (u := u) (sp := sp) (fl := fl) (C := C) (d := d) hdp
 have hs := zot (u := u) (sp := sp) (dp := dp) (fl := fl) (d := d) hC
 have hl := zaQ u sp dp fl C d
 have e1 : zcz (zbU u sp dp fl C d) 2 2 to = zbU u sp to fl C d := by
  rw [show (2 : Int) = ((2 : Nat) : Int) from rfl, zgd (by rw [hl]; cases u <;> simp [hdn] <;> omega), f6]
  cases u <;> rfl
 unfold zdL
 rw [if_pos ⟨zhi hd, rfl⟩, e1, zzo, zzo]
 cases u
 · have e2 : ∀ c : Int, zcz (zbU false sp to fl C d) 16 2 c = zbU false sp to fl c d := fun c => by
     rw [show (16 : Int) = ((16 : Nat) : Int) from rfl, zgd (by rw [zaQ]; simp [hdn] <;> omega), f6]; rfl
   rw [if_neg (fun h => absurd h.1 (by decide)), if_neg (fun h => absurd h.1 (by decide))]
   have hp : zpG (prt false) (zbU false sp dp fl C d) to (adW v X) (adW v Y) = zaR (zfJ C dp to) (adW v X) (adW v Y) := by
    show zaR (zfJ (zan (zbU false sp dp fl C d) 16) (zan (zbU false sp dp fl C d) 2) to) _ _ = _
    rw [h2]; rw [show zan (zbU false sp dp fl C d) 16 = C from hs]
   rw [hp]
   unfold pC
   rw [if_neg (by simp), if_neg (by simp)]
   exact e2 _
 · have e2 : ∀ c : Int, zcz (zbU true sp to fl C d) 6 2 c = zbU true sp to fl c d := fun c => by
     rw [show (6 : Int) = ((6 : Nat) : Int) from rfl, zgd (by rw [zaQ]; simp [hdn] <;> omega), f6]; rfl
   have hs' : zan (zbU true sp dp fl C d) 6 = C := hs
   have hp : zpG (prt true) (zbU true sp dp fl C d) to (adW v X) (adW v Y) = zaR (zfJ C dp to) (adW v X) (adW v Y) := by
    show zaR (zfJ (zan (zbU true sp dp fl C d) 6) (zan (zbU true sp dp fl C d) 2) to) _ _ = _
    rw [h2, hs']
   rw [hp, hs']
   unfold pC
   by_cases hz : C = 0
   · rw [if_pos (show prt true = 17 ∧ C = 0 from ⟨rfl, hz⟩), if_pos (show true = true ∧ C = 0 from ⟨rfl, hz⟩), hz]
   · rw [if_neg (show ¬ (prt true = 17 ∧ C = 0) from fun h => hz h.2), if_neg (show ¬ (true = true ∧ C = 0) from fun h => hz h.2)]
     by_cases hc : zaR (zfJ C dp to) (adW v X) (adW v Y) = 0
     · rw [if_pos (show prt true = 17 ∧ zaR (zfJ C dp to) (adW v X) (adW v Y) = 0 from ⟨rfl, hc⟩), if_pos (show true = true ∧ zaR (zfJ C dp to) (adW v X) (adW v Y) = 0 from ⟨rfl, hc⟩)]; exact e2 _
     · rw [if_neg (show ¬ (prt true = 17 ∧ zaR (zfJ C dp to) (adW v X) (adW v Y) = 0) from fun h => hc h.2), if_neg (show ¬ (true = true ∧ zaR (zfJ C dp to) (adW v X) (adW v Y) = 0) from fun h => hc h.2)]; exact e2 _


theorem okS (v : Bool) (n : Int) : okY v (zb8 n) := ⟨rfl, fun _ => rfl⟩
theorem okD (v : Bool) : okY v zbA := ⟨rfl, fun _ => rfl⟩
theorem okA (v : Bool) (m : Int) : okY v (zbq m) := ⟨rfl, fun _ => rfl⟩
theorem zw3 (v u : Bool) (n : Int) {L : Nat} (hL : L ≤ 65515) : ∃ C0, (0 ≤ C0 ∧ C0 < 65536) ∧ zo8 v u n L = ipH v (prt u) L C0 (zb8 n) zbA ∧ (v = false → zft (ipH false (prt u) L C0 (zb8 n) zbA) = 0) := by
 cases v
 · have mk := (zvO (n := L) (pr := prt u) (X := zb8 n) (Y := zbA) (S := (zb8 n).take 4) (D := zbA.take 4) (by omega) rfl rfl).2 rfl rfl
   refine ⟨_, zf7 _, ?_, fun _ => zuU (w := 0) (L := 20 + L) (p := u8i (prt u)) (O := []) (by omega) rfl rfl⟩
   show zgp (zbD false n) (zce false) (prt u) L = _
   rw [za9, zbN, mk]; rfl
 · refine ⟨0, by omega, ?_, fun h => by simp at h⟩
   show zgF (zbD true n) (zce true) (prt u) L = _
   rw [za9, zbN]
   unfold zgF
   rw [if_pos ⟨rfl, rfl, by omega, by omega⟩, zbY, zbY]
   rfl
theorem zuP (v u tag bare : Bool) (n : Int) (fl : UInt8) (d : List UInt8) (pad : Nat) (hd : d.length ≤ 2000) : ∃ C0, (0 ≤ C0 ∧ C0 < 65536) ∧ ze9 v u tag bare n fl d pad = frm v tag (prt u) C0 (zb8 n) zbA (zj0 v u bare n fl d) (List.replicate pad 0) ∧
 (v = false → zft (ipH false (prt u) (zj0 v u bare n fl d).length C0 (zb8 n) zbA) = 0) := by
 have hl : (zj0 v u bare n fl d).length = hdn u + d.length := zaQ _ _ _ _ _ _
 obtain ⟨C0, h0, h1, h2⟩ := zw3 v u n (L := hdn u + d.length) (by cases u <;> simp [hdn] <;> omega)
 refine ⟨C0, h0, ?_, fun h => by rw [hl]; exact h2 h⟩
 unfold ze9 frm
 rw [hl, h1, List.append_assoc, List.append_assoc]
theorem znL (n : Int) : 0 ≤ zat n ∧ zat n < 65536 := by have := zi5 n; omega
theorem zt9 (v u bare : Bool) (n : Int) (fl : UInt8) (d : List UInt8) : (u = true ∧ bare = true ∧ zek v u bare n fl d = 0) ∨ (¬ (u = true ∧ zek v u bare n fl d = 0) ∧ (gK v u (zb8 n) zbA (zbU u (zat n) 80 fl 0 d) + zek v u bare n fl d) % 65535 = 0) := by
 by_cases hb : u = true ∧ bare = true
 · left; refine ⟨hb.1, hb.2, ?_⟩; unfold zek; rw [if_pos hb]
 · right
   have hl : (zbU u (zat n) 80 fl 0 d).length = hdn u + d.length := zaQ _ _ _ _ _ _
   have hK := zvl (v := v) (u := u) (sg := zbU u (zat n) 80 fl 0 d) (X := zb8 n) (Y := zbA) rfl rfl
   have hev : (zav (prt u) ((hdn u + d.length : Nat) : Int) (zbD v n) (zce v)).length % 2 = 0 := by
    rw [za9, zbN]
    unfold zav
    cases v
    · rw [zcF, zcF, if_neg (by simp [za8]), zc9]; simp [zb8, zbA]
    · rw [zbY, zbY, if_pos (by simp [za8]), zdi]; simp [zb8, zbA]
   have e : zbm v u n fl d = zcE (gK v u (zb8 n) zbA (zbU u (zat n) 80 fl 0 d)) := by
    unfold zbm zfX gK
    rw [zaV _ _ hev, za9, zbN, hl, Int.zero_add]
   have h1 := zgX (n := gK v u (zb8 n) zbA (zbU u (zat n) 80 fl 0 d)) (by omega)
   have h2 := zcR (gK v u (zb8 n) zbA (zbU u (zat n) 80 fl 0 d))
   have h3 : 0 < zcE (gK v u (zb8 n) zbA (zbU u (zat n) 80 fl 0 d)) := by unfold zcE; rw [if_neg (by omega)]; omega
   unfold zek
   rw [if_neg hb, e]
   split
   · exact ⟨by omega, by omega⟩
   · rename_i hc
     refine ⟨fun h => hc ⟨h.1, h.2⟩, by omega⟩

def zoC (u : Bool) : Nat := if u = true then 6 else 16
theorem zvi (u : Bool) (sp dp : Int) (fl : UInt8) (C : Int) (d : List UInt8) : zbU u sp dp fl C d = ((zbU u sp dp fl 0 d).set (zoC u) (u8i (C / 256))).set (zoC u + 1) (u8i C) := by cases u <;> rfl
theorem zoI {u : Bool} {sp dp : Int} {fl : UInt8} {C : Int} {d : List UInt8} (i : Nat) (hC : 0 ≤ C ∧ C < 65536) : byt (zbU u sp dp fl C d) i = if i = zoC u + 1 then C % 256 else if i = zoC u then C / 256 else byt (zbU u sp dp fl 0 d) i := by
 have hl := zaQ u sp dp fl 0 d
 have h1 : zoC u + 1 < (zbU u sp dp fl 0 d).length := by rw [hl]; cases u <;> simp [zoC, hdn] <;> omega
 rw [zvi, zsX (by simpa using h1), zsX (by omega), zaG, zaG]
 split
 · rfl
 · split
   · omega
   · rfl
theorem zsj {u : Bool} {sp dp : Int} {fl : UInt8} {C C' : Int} {d : List UInt8} (hC : 0 ≤ C ∧ C < 65536) (hC' : 0 ≤ C' ∧ C' < 65536) (h : (C' - C) % 65535 = 0) (i : Nat) :
 byt (zbU u sp dp fl C d) i = byt (zbU u sp dp fl C' d) i ∨ ((i = zoC u ∨ i = zoC u + 1) ∧ byt (zbU u sp dp fl C d) i % 255 = 0 ∧ byt (zbU u sp dp fl C' d) i % 255 = 0) := by
 rw [zoI i hC, zoI i hC']
 by_cases h1 : i = zoC u + 1
 · rw [if_pos h1, if_pos h1]; by_cases he : C = C'
   · left; rw [he]
   · right; exact ⟨.inr h1, by omega, by omega⟩
 · rw [if_neg h1, if_neg h1]
   by_cases h2 : i = zoC u
   · rw [if_pos h2, if_pos h2]; by_cases he : C = C'
     · left; rw [he]
     · right; exact ⟨.inl h2, by omega, by omega⟩
   · rw [if_neg h2, if_neg h2]; exact .inl rfl

theorem zxj {v u : Bool} {X Y Y' d : List UInt8} {sp sp' dp dp' C : Int} {fl : UInt8} (hX : X.length = 16) (hY : Y.length = 16) (hY' : Y'.length = 16) (hd : d.length ≤ 65000) (hs : 0 ≤ sp ∧ sp < 65536) (hs' : 0 ≤ sp' ∧ sp' < 65536) (g : 0 ≤ dp ∧ dp < 65536) (g' : 0 ≤ dp' ∧ dp' < 65536) (hC : 0 ≤ C ∧ C < 65536)
 (hz : ¬ (u = true ∧ C = 0)) (hg : (gK v u X Y (zbU u sp dp fl 0 d) + C) % 65535 = 0) :
 zfy (prt u) (zbU u sp' dp fl C d) (.bool v :: bys X) (.bool v :: bys Y) = decide ((sp' - sp) % 65535 = 0) ∧
 zfy (prt u) (zbU u sp' dp' fl (pC u C dp dp' (adW v Y) (adW v Y')) d) (.bool v :: bys X) (.bool v :: bys Y') = decide ((sp' - sp) % 65535 = 0) := by
 have hm := zh8 (v := v) (u := u) (X := Y) (Y := Y') hY hY' hC g g' hz
 have hr := ziE (u := u) (C := C) (dp := dp) (to := dp') (A := adW v Y) (B := adW v Y')
 rw [zhy hX hY hC hd, zhy hX hY' hr hd, decide_eq_false hz, decide_eq_false hm.2, Bool.false_or, Bool.false_or]
 have k1 := zyE (v := v) (u := u) (X := X) (Y := Y) (X' := X) (Y' := Y) (d := d) (fl := fl) hX hY hX hY hs hs' g g
 have k2 := zyE (v := v) (u := u) (X := X) (Y := Y) (X' := X) (Y' := Y') (d := d) (fl := fl) hX hY hX hY' hs hs' g g'
 refine ⟨decide_eq_decide.2 ?_, decide_eq_decide.2 ?_⟩ <;> omega

end Go.Proofs.Ytnchnjkakddhlaa.L
