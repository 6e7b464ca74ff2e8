/- seg's Port, and the reference's: what they yield. -/
import Derived.Test.YtnchnjkakddhlaaSeg2
set_option autoImplicit false
set_option maxRecDepth 100000
set_option linter.unusedVariables false
set_option linter.unusedSimpArgs false
namespace Go.Proofs.Ytnchnjkakddhlaa.L
open Go Go.Abs

theorem zvI (l A B X Y : List UInt8) (v : Bool) (to s u c : Int) (hl : l.length ≤ 1000000000000) (hto : 0 ≤ to ∧ to < 65536) (hr : zbW 6 l = 0) (hX : X.length = 16) (hY : Y.length = 16) (hA : zag (.bool v :: bys X) = A) (hB : zag (.bool v :: bys Y) = B)
 (hs : zan l 16 = s) (hu : zfJ s (zan l 2) to = u) (hc : zaR u A B = c) : ∃ h1, Runs Try.prog 23 [.int .u8 6, slB 0 l, .int .u16 to, .agg (.bool v :: bys X), .agg (.bool v :: bys Y)] [zaC l] (.sl (some (4, 0)) l.length 0 false) h1 ∧ ∃ par, h1[4]? = some (.cells (bys (zcz (zcz l 2 2 to) 16 2 c)) 1 .own par) := by
 have hn : 20 ≤ l.length := by rcases zcx hr with h | h <;> omega
 have w2 := zau l 2
 have ws := zau l 16
 rw [hs] at ws
 have hwX : zas (List.take 17 (AV.bool v :: bys X)) = true := by rw [zaW hX]; exact zaK hX
 have hwY : zas (List.take 17 (AV.bool v :: bys Y)) = true := by rw [zaW hY]; exact zaK hY
 have hAX : zag (List.take 17 (AV.bool v :: bys X)) = A := by rw [zaW hX]; exact hA
 have hBY : zag (List.take 17 (AV.bool v :: bys Y)) = B := by rw [zaW hY]; exact hB
 have hur : 0 ≤ u ∧ u < 65536 := by rw [← hu]; exact zcZ _ _ _
 have hcr : 0 ≤ c ∧ c < 65536 := by rw [← hc]; exact zbI _ _ hur
 have hAl : nOf (.sl (some (5, 0)) A.length 0 false) ≤ 70368744177664 := by
  show A.length ≤ _
  rw [← hA]; cases v <;> simp [zag, hX]
 refine ⟨zhk l (zcz l 2 2 to) (zcz (zcz l 2 2 to) 16 2 c) A B X Y v v to (zan l 0) s (zan l 2) (zca 6 l) u c, Runs.ofT0 (zhN l (zcz l 2 2 to) (zcz (zcz l 2 2 to) 16 2 c) A B (hd7 (zan l 0) (zan l 2) (zca 6 l)) s u c) (F := 100) (n := 4) (pr := [(24, .bool false), (30, .bool false)]) ?_, none, rfl⟩
 refine (zwR l (zcz l 2 2 to) (zcz (zcz l 2 2 to) 16 2 c) A B X Y v v to (zan l 0) s (zan l 2) (zca 6 l) u c _).trans ?_
 refine (if_pos (zab.2 (zej (zam rfl rfl rfl) hl (zbP hr).1))).trans ?_
 refine (if_pos (by simp)).trans ?_
 refine (if_pos (zab.2 (zeb (zam rfl rfl rfl) hl rfl))).trans ?_
 refine (if_pos (zab.2 (zjv (l := l) rfl rfl rfl hl ⟨by decide, by omega⟩ hto rfl))).trans ?_
 refine (if_pos (zab.2 (zAS (zam rfl rfl rfl) ⟨by simp; omega, by decide, by simp; omega⟩ (by decide) hs))).trans ?_
 refine (if_pos (zab.2 (zrN ws w2 hto hu))).trans ?_
 refine (if_pos (by simp [hX, hY])).trans ?_
 refine (if_pos (zab.2 (zaT hwX hAX rfl))).trans ?_
 refine (if_pos (by simp [hX, hY])).trans ?_
 refine (if_pos (zab.2 (zaT hwY hBY rfl))).trans ?_
 refine (if_pos (zab.2 (zjc (A := A) (B := B) (zam rfl rfl rfl) (zam rfl rfl rfl) ⟨hAl, hur⟩ hc))).trans ?_
 refine (if_pos (by simp [hX, hY])).trans ?_
 refine (if_pos (AV.beq_self _)).trans ?_
 refine (if_pos (zab.2 (zjv (l := zcz l 2 2 to) rfl rfl (by rw [zbz]) (by rw [zbz]; exact hl) ⟨by decide, by rw [zbz]; omega⟩ hcr rfl))).trans ?_
 rfl

theorem zuJ (l A B X Y : List UInt8) (v : Bool) (to s u c : Int) (hl : l.length ≤ 1000000000000) (hto : 0 ≤ to ∧ to < 65536) (hr : zbW 17 l = 0) (hX : X.length = 16) (hY : Y.length = 16) (hA : zag (.bool v :: bys X) = A) (hB : zag (.bool v :: bys Y) = B)
 (hs : zan l 6 = s) (hu : zfJ s (zan l 2) to = u) (hc : zaR u A B = c) (hs0 : s ≠ 0) (hc0 : c ≠ 0) : ∃ h1, Runs Try.prog 23 [.int .u8 17, slB 0 l, .int .u16 to, .agg (.bool v :: bys X), .agg (.bool v :: bys Y)] [zaC l] (.sl (some (4, 0)) l.length 0 false) h1 ∧ ∃ par, h1[4]? = some (.cells (bys (zcz (zcz l 2 2 to) 6 2 c)) 1 .own par) := by
 have hn : 8 ≤ l.length := by rcases zcx hr with h | h <;> omega
 have w2 := zau l 2
 have ws := zau l 6
 rw [hs] at ws
 have hwX : zas (List.take 17 (AV.bool v :: bys X)) = true := by rw [zaW hX]; exact zaK hX
 have hwY : zas (List.take 17 (AV.bool v :: bys Y)) = true := by rw [zaW hY]; exact zaK hY
 have hAX : zag (List.take 17 (AV.bool v :: bys X)) = A := by rw [zaW hX]; exact hA
 have hBY : zag (List.take 17 (AV.bool v :: bys Y)) = B := by rw [zaW hY]; exact hB
 have hur : 0 ≤ u ∧ u < 65536 := by rw [← hu]; exact zcZ _ _ _
 have hcr : 0 ≤ c ∧ c < 65536 := by rw [← hc]; exact zbI _ _ hur
 have hAl : nOf (.sl (some (5, 0)) A.length 0 false) ≤ 70368744177664 := by
  show A.length ≤ _
  rw [← hA]; cases v <;> simp [zag, hX]
 refine ⟨zlm l (zcz l 2 2 to) (zcz (zcz l 2 2 to) 6 2 c) A B X Y v v to (zan l 0) s (zan l 2) (zca 17 l) u c, Runs.ofT0 (zhN l (zcz l 2 2 to) (zcz (zcz l 2 2 to) 6 2 c) A B (hd7 (zan l 0) (zan l 2) (zca 17 l)) s u c) (F := 100) (n := 4) (pr := [(24, .bool false), (30, .bool false), (49, .bool false), (67, .bool false)]) ?_, none, rfl⟩
 refine (zxe l (zcz l 2 2 to) (zcz (zcz l 2 2 to) 6 2 c) A B X Y v v to (zan l 0) s (zan l 2) (zca 17 l) u c _).trans ?_
 refine (if_pos (zab.2 (zej (zam rfl rfl rfl) hl (zbP hr).1))).trans ?_
 refine (if_pos (by simp)).trans ?_
 refine (if_pos (zab.2 (zeb (zam rfl rfl rfl) hl rfl))).trans ?_
 refine (if_pos (zab.2 (zjv (l := l) rfl rfl rfl hl ⟨by decide, by omega⟩ hto rfl))).trans ?_
 refine (if_pos (zab.2 (zAS (zam rfl rfl rfl) ⟨by simp; omega, by decide, by simp; omega⟩ (by decide) hs))).trans ?_
 refine (if_pos (by simp [hs0])).trans ?_
 refine (if_pos (zab.2 (zrN ws w2 hto hu))).trans ?_
 refine (if_pos (by simp [hX, hY])).trans ?_
 refine (if_pos (zab.2 (zaT hwX hAX rfl))).trans ?_
 refine (if_pos (by simp [hX, hY])).trans ?_
 refine (if_pos (zab.2 (zaT hwY hBY rfl))).trans ?_
 refine (if_pos (zab.2 (zjc (A := A) (B := B) (zam rfl rfl rfl) (zam rfl rfl rfl) ⟨hAl, hur⟩ hc))).trans ?_
 refine (if_pos (by simp [hX, hY])).trans ?_
 refine (if_pos (AV.beq_self _)).trans ?_
 refine (if_pos (by simp [hc0])).trans ?_
 refine (if_pos (zab.2 (zjv (l := zcz l 2 2 to) rfl rfl (by rw [zbz]) (by rw [zbz]; exact hl) ⟨by decide, by rw [zbz]; omega⟩ hcr rfl))).trans ?_
 rfl

theorem zuR (l A B X Y : List UInt8) (v : Bool) (to s u c : Int) (hl : l.length ≤ 1000000000000) (hto : 0 ≤ to ∧ to < 65536) (hr : zbW 17 l = 0) (hX : X.length = 16) (hY : Y.length = 16) (hA : zag (.bool v :: bys X) = A) (hB : zag (.bool v :: bys Y) = B)
 (hs : zan l 6 = s) (hs0 : s = 0) : ∃ h1, Runs Try.prog 23 [.int .u8 17, slB 0 l, .int .u16 to, .agg (.bool v :: bys X), .agg (.bool v :: bys Y)] [zaC l] (.sl (some (4, 0)) l.length 0 false) h1 ∧ ∃ par, h1[4]? = some (.cells (bys (zcz l 2 2 to)) 1 .own par) := by
 have hn : 8 ≤ l.length := by rcases zcx hr with h | h <;> omega
 have w2 := zau l 2
 have ws := zau l 6
 rw [hs] at ws
 have hwX : zas (List.take 17 (AV.bool v :: bys X)) = true := by rw [zaW hX]; exact zaK hX
 have hwY : zas (List.take 17 (AV.bool v :: bys Y)) = true := by rw [zaW hY]; exact zaK hY
 have hAX : zag (List.take 17 (AV.bool v :: bys X)) = A := by rw [zaW hX]; exact hA
 have hBY : zag (List.take 17 (AV.bool v :: bys Y)) = B := by rw [zaW hY]; exact hB
 refine ⟨zlx l (zcz l 2 2 to) (zcz l 2 2 to) A B X Y v v to (zan l 0) s (zan l 2) (zca 17 l) 0 0, Runs.ofT0 (zhN l (zcz l 2 2 to) (zcz l 2 2 to) A B (hd7 (zan l 0) (zan l 2) (zca 17 l)) s 0 0) (F := 100) (n := 4) (pr := [(24, .bool false), (30, .bool false), (49, .bool true)]) ?_, none, rfl⟩
 refine (zx0 l (zcz l 2 2 to) (zcz l 2 2 to) A B X Y v v to (zan l 0) s (zan l 2) (zca 17 l) 0 0 _).trans ?_
 refine (if_pos (zab.2 (zej (zam rfl rfl rfl) hl (zbP hr).1))).trans ?_
 refine (if_pos (by simp)).trans ?_
 refine (if_pos (zab.2 (zeb (zam rfl rfl rfl) hl rfl))).trans ?_
 refine (if_pos (zab.2 (zjv (l := l) rfl rfl rfl hl ⟨by decide, by omega⟩ hto rfl))).trans ?_
 refine (if_pos (zab.2 (zAS (zam rfl rfl rfl) ⟨by simp; omega, by decide, by simp; omega⟩ (by decide) hs))).trans ?_
 refine (if_pos (by simp [hs0])).trans ?_
 rfl

theorem zvs (l A B X Y : List UInt8) (v : Bool) (to s u c : Int) (hl : l.length ≤ 1000000000000) (hto : 0 ≤ to ∧ to < 65536) (hr : zbW 17 l = 0) (hX : X.length = 16) (hY : Y.length = 16) (hA : zag (.bool v :: bys X) = A) (hB : zag (.bool v :: bys Y) = B)
 (hs : zan l 6 = s) (hu : zfJ s (zan l 2) to = u) (hc : zaR u A B = c) (hs0 : s ≠ 0) (hc0 : c = 0) : ∃ h1, Runs Try.prog 23 [.int .u8 17, slB 0 l, .int .u16 to, .agg (.bool v :: bys X), .agg (.bool v :: bys Y)] [zaC l] (.sl (some (4, 0)) l.length 0 false) h1 ∧ ∃ par, h1[4]? = some (.cells (bys (zcz (zcz l 2 2 to) 6 2 65535)) 1 .own par) := by
 have hn : 8 ≤ l.length := by rcases zcx hr with h | h <;> omega
 have w2 := zau l 2
 have ws := zau l 6
 rw [hs] at ws
 have hwX : zas (List.take 17 (AV.bool v :: bys X)) = true := by rw [zaW hX]; exact zaK hX
 have hwY : zas (List.take 17 (AV.bool v :: bys Y)) = true := by rw [zaW hY]; exact zaK hY
 have hAX : zag (List.take 17 (AV.bool v :: bys X)) = A := by rw [zaW hX]; exact hA
 have hBY : zag (List.take 17 (AV.bool v :: bys Y)) = B := by rw [zaW hY]; exact hB
 have hur : 0 ≤ u ∧ u < 65536 := by rw [← hu]; exact zcZ _ _ _
 have hcr : 0 ≤ c ∧ c < 65536 := by rw [← hc]; exact zbI _ _ hur
 have hAl : nOf (.sl (some (5, 0)) A.length 0 false) ≤ 70368744177664 := by
  show A.length ≤ _
  rw [← hA]; cases v <;> simp [zag, hX]
 refine ⟨zlu l (zcz l 2 2 to) (zcz (zcz l 2 2 to) 6 2 65535) A B X Y v v to (zan l 0) s (zan l 2) (zca 17 l) u c, Runs.ofT0 (zhN l (zcz l 2 2 to) (zcz (zcz l 2 2 to) 6 2 65535) A B (hd7 (zan l 0) (zan l 2) (zca 17 l)) s u c) (F := 100) (n := 4) (pr := [(24, .bool false), (30, .bool false), (49, .bool false), (67, .bool true)]) ?_, none, rfl⟩
 refine (zxH l (zcz l 2 2 to) (zcz (zcz l 2 2 to) 6 2 65535) A B X Y v v to (zan l 0) s (zan l 2) (zca 17 l) u c _).trans ?_
 refine (if_pos (zab.2 (zej (zam rfl rfl rfl) hl (zbP hr).1))).trans ?_
 refine (if_pos (by simp)).trans ?_
 refine (if_pos (zab.2 (zeb (zam rfl rfl rfl) hl rfl))).trans ?_
 refine (if_pos (zab.2 (zjv (l := l) rfl rfl rfl hl ⟨by decide, by omega⟩ hto rfl))).trans ?_
 refine (if_pos (zab.2 (zAS (zam rfl rfl rfl) ⟨by simp; omega, by decide, by simp; omega⟩ (by decide) hs))).trans ?_
 refine (if_pos (by simp [hs0])).trans ?_
 refine (if_pos (zab.2 (zrN ws w2 hto hu))).trans ?_
 refine (if_pos (by simp [hX, hY])).trans ?_
 refine (if_pos (zab.2 (zaT hwX hAX rfl))).trans ?_
 refine (if_pos (by simp [hX, hY])).trans ?_
 refine (if_pos (zab.2 (zaT hwY hBY rfl))).trans ?_
 refine (if_pos (zab.2 (zjc (A := A) (B := B) (zam rfl rfl rfl) (zam rfl rfl rfl) ⟨hAl, hur⟩ hc))).trans ?_
 refine (if_pos (by simp [hX, hY])).trans ?_
 refine (if_pos (AV.beq_self _)).trans ?_
 refine (if_pos (by simp [hc0])).trans ?_
 refine (if_pos (zab.2 (zjv (l := zcz l 2 2 to) rfl rfl (by rw [zbz]) (by rw [zbz]; exact hl) ⟨by decide, by rw [zbz]; omega⟩ (by decide) rfl))).trans ?_
 rfl

theorem zAX : SoundE Try.prog 23 (zbj zhj) := by
 refine zb0 fun args h v' h' hg => ?_
 unfold zhj at hg
 split at hg
 · rename_i p b to cs ds
   simp only [Option.some.injEq, Prod.mk.injEq, Bool.and_eq_true, decide_eq_true_eq] at hg
   obtain ⟨⟨hb, hwc, hwd, hn, hto⟩, rfl, rfl⟩ := hg
   rw [← zbt hb] at hn
   obtain ⟨v, X, rfl, hX⟩ := zdn hwc
   obtain ⟨w, Y, rfl, hY⟩ := zdn hwd
   refine ⟨[.int .u8 p, slB 0 (bOf h b), .int .u16 to, .agg (.bool v :: bys X), .agg (.bool w :: bys Y)], [zaC (bOf h b)], .cons _ _ _ _ _ _ _ (.flat _ _ rfl) (.cons _ _ _ _ _ _ _ (zaJ hb 0) (.cons _ _ _ _ _ _ _ (.flat _ _ rfl) (.cons _ _ _ _ _ _ _ (.flat _ _ zcH) (.cons _ _ _ _ _ _ _ (.flat _ _ zcH) (.nil _))))), ?_⟩
   generalize bOf h b = l at hn
   by_cases hr : zbW p l = 0
   case neg =>
    rw [zse (.inl hr)]
    refine ⟨.sl none 0 0 true, ztr p l [] [] [] [] X Y v w to 0 (zbW p l) 0 0 0 0, Runs.ofT0 (zhN l [] [] [] [] (zBI (zbW p l)) (zbW p l) 0 0) (F := 100) (n := 4) (pr := [(24, .bool true)]) ?_, [none], _, rfl, zqf, zdJ _⟩
    refine (zxY p l [] [] [] [] X Y v w to 0 (zbW p l) 0 0 0 0 _).trans ?_
    refine (if_pos (zab.2 (zej (zam rfl rfl rfl) hn (zeG rfl hr).1))).trans ?_
    refine (if_pos (by first | exact True.intro | rfl | omega | (simp; done) | (simp; omega) | (simp [zai]; done) | (simp [zai]; omega))).trans ?_
    rfl
   by_cases hvw : v = w
   case neg =>
    rw [zse (.inr (show za8 (.bool v :: bys X) ≠ za8 (.bool w :: bys Y) from hvw))]
    refine ⟨.sl none 0 0 true, zqM p l [] [] [] [] X Y v w to (zan l 0) 0 (zan l 2) (zca p l) 0 0, Runs.ofT0 (zhN l [] [] [] [] (hd7 (zan l 0) (zan l 2) (zca p l)) 0 0 0) (F := 100) (n := 4) (pr := [(24, .bool false), (30, .bool true)]) ?_, [none], _, rfl, zqf, zdJ _⟩
    refine (zwZ p l [] [] [] [] X Y v w to (zan l 0) 0 (zan l 2) (zca p l) 0 0 _).trans ?_
    refine (if_pos (zab.2 (zej (zam rfl rfl rfl) hn (zbP hr).1))).trans ?_
    refine (if_pos (by simp [zbZ]; exact hvw)).trans ?_
    rfl
   subst hvw
   have hlen := zh7 (to := to) (cs := .bool v :: bys X) (ds := .bool v :: bys Y) ⟨hr, rfl⟩
   have fin : ∀ {L : List UInt8} {h1 : zaa}, Runs Try.prog 23 [.int .u8 p, slB 0 l, .int .u16 to, .agg (.bool v :: bys X), .agg (.bool v :: bys Y)] [zaC l] (.sl (some (4, 0)) l.length 0 false) h1 ∧ (∃ par, h1[4]? = some (.cells (bys L) 1 .own par)) → zdL p l to (.bool v :: bys X) (.bool v :: bys Y) = L →
    ∃ v1 h1', Runs Try.prog 23 [.int .u8 p, slB 0 l, .int .u16 to, .agg (.bool v :: bys X), .agg (.bool v :: bys Y)] [zaC l] v1 h1' ∧ ∃ ks new, h ++ [zbo (zdL p l to (.bool v :: bys X) (.bool v :: bys Y))] = h ++ new ∧ Den h1' [zaC l].length h.length ks v1 (slB h.length (zdL p l to (.bool v :: bys X) (.bool v :: bys Y))) new ∧ zkX ks := by
    rintro L h1 ⟨hx, par, hc⟩ hL
    rw [hL] at hlen ⊢
    exact ⟨_, h1, hx, [some 4], _, rfl, zug (by simp) hc rfl (by omega), zdJ _⟩
   rcases zcx hr with ⟨rfl, hn20⟩ | ⟨rfl, hn8⟩
   · obtain ⟨h1, hx⟩ := zvI l _ _ X Y v to _ _ _ hn hto hr hX hY rfl rfl rfl rfl rfl
     refine fin hx ?_
     unfold zdL zpG
     rw [if_pos ⟨hr, rfl⟩, if_neg (fun h => absurd h.1 (by decide)), if_neg (fun h => absurd h.1 (by decide))]; rfl
   · have hpc : zpG 17 l to (zag (.bool v :: bys X)) (zag (.bool v :: bys Y)) = zaR (zfJ (zan l 6) (zan l 2) to) (zag (.bool v :: bys X)) (zag (.bool v :: bys Y)) := rfl
     by_cases hs : zan l 6 = 0
     · obtain ⟨h1, hx⟩ := zuR l _ _ X Y v to _ 0 0 hn hto hr hX hY rfl rfl rfl hs
       refine fin hx ?_
       unfold zdL
       rw [if_pos ⟨hr, rfl⟩, if_pos ⟨rfl, hs⟩]
     · by_cases hc : zaR (zfJ (zan l 6) (zan l 2) to) (zag (.bool v :: bys X)) (zag (.bool v :: bys Y)) = 0
       · obtain ⟨h1, hx⟩ := zvs l _ _ X Y v to _ _ _ hn hto hr hX hY rfl rfl rfl rfl rfl hs hc
         refine fin hx ?_
         unfold zdL
         rw [if_pos ⟨hr, rfl⟩, if_neg (fun h => hs h.2), hpc, if_pos ⟨rfl, hc⟩]; rfl
       · obtain ⟨h1, hx⟩ := zuJ l _ _ X Y v to _ _ _ hn hto hr hX hY rfl rfl rfl rfl rfl hs hc
         refine fin hx ?_
         unfold zdL
         rw [if_pos ⟨hr, rfl⟩, if_neg (fun h => hs h.2), hpc, if_neg (fun h => hc h.2)]; rfl
 · simp at hg

end Go.Proofs.Ytnchnjkakddhlaa.L
