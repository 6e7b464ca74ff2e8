/- seg's Port, and the reference's: what they yield. -/
import Derived.Test.YtnchnjkakddhlaaSeg2
set_option autoImplicit false
set_option maxRecDepth 100000
set_option linter.unusedVariables false
set_option linter.unusedSimpArgs false
namespace Go.Proofs.Ytnchnjkakddhlaa.L
open Go Go.Abs

theorem runPortA (l A B X Y : List UInt8) (v : Bool) (to s u c : Int) (hl : l.length ≤ 1000000000000) (hto : 0 ≤ to ∧ to < 65536) (hr : segR 6 l = 0) (hX : X.length = 16) (hY : Y.length = 16) (hA : adrBytes (.bool v :: bys X) = A) (hB : adrBytes (.bool v :: bys Y) = B)
    (hs : word l 16 = s) (hu : updI s (word l 2) to = u) (hc : changeI u A B = c) : ∃ h1, Runs Try.prog 23 [.int .u8 6, slB 0 l, .int .u16 to, .agg (.bool v :: bys X), .agg (.bool v :: bys Y)] [farB l] (.sl (some (4, 0)) l.length 0 false) h1 ∧ ∃ par, h1[4]? = some (.cells (bys (putR (putR l 2 2 to) 16 2 c)) 1 .own par) := by
  have hn : 20 ≤ l.length := by rcases segR_len hr with h | h <;> omega
  have w2 := word_range l 2
  have ws := word_range l 16
  rw [hs] at ws
  have hwX : adrWf (List.take 17 (AV.bool v :: bys X)) = true := by rw [adrB_17 hX]; exact adrB_wf hX
  have hwY : adrWf (List.take 17 (AV.bool v :: bys Y)) = true := by rw [adrB_17 hY]; exact adrB_wf hY
  have hAX : adrBytes (List.take 17 (AV.bool v :: bys X)) = A := by rw [adrB_17 hX]; exact hA
  have hBY : adrBytes (List.take 17 (AV.bool v :: bys Y)) = B := by rw [adrB_17 hY]; exact hB
  have hur : 0 ≤ u ∧ u < 65536 := by rw [← hu]; exact updI_range _ _ _
  have hcr : 0 ≤ c ∧ c < 65536 := by rw [← hc]; exact changeI_range _ _ hur
  have hAl : nOf (.sl (some (5, 0)) A.length 0 false) ≤ 70368744177664 := by
    show A.length ≤ _
    rw [← hA]; cases v <;> simp [adrBytes, hX]
  refine ⟨hPortA10 l (putR l 2 2 to) (putR (putR l 2 2 to) 16 2 c) A B X Y v v to (word l 0) s (word l 2) (segF 6 l) u c, Runs.ofT0 (tPortOk l (putR l 2 2 to) (putR (putR l 2 2 to) 16 2 c) A B (hd7 (word l 0) (word l 2) (segF 6 l)) s u c) (F := 100) (n := 4) (pr := [(24, .bool false), (30, .bool false)]) ?_, none, rfl⟩
  refine (nfPortA l (putR l 2 2 to) (putR (putR l 2 2 to) 16 2 c) A B X Y v v to (word l 0) s (word l 2) (segF 6 l) u c _).trans ?_
  refine (if_pos (cdec_true.2 (saySegR (bOk_row rfl rfl rfl) hl (segRead_Y hr).1))).trans ?_
  refine (if_pos (by simp)).trans ?_
  refine (if_pos (cdec_true.2 (sayClone (bOk_row rfl rfl rfl) hl rfl))).trans ?_
  refine (if_pos (cdec_true.2 (sayPut (l := l) rfl rfl rfl hl ⟨by decide, by omega⟩ hto rfl))).trans ?_
  refine (if_pos (cdec_true.2 (sayW (bOk_row rfl rfl rfl) ⟨by simp; omega, by decide, by simp; omega⟩ (by decide) hs))).trans ?_
  refine (if_pos (cdec_true.2 (sayUpd ws w2 hto hu))).trans ?_
  refine (if_pos (by simp [hX, hY])).trans ?_
  refine (if_pos (cdec_true.2 (sayBytes hwX hAX rfl))).trans ?_
  refine (if_pos (by simp [hX, hY])).trans ?_
  refine (if_pos (cdec_true.2 (sayBytes hwY hBY rfl))).trans ?_
  refine (if_pos (cdec_true.2 (sayChange (A := A) (B := B) (bOk_row rfl rfl rfl) (bOk_row rfl rfl rfl) ⟨hAl, hur⟩ hc))).trans ?_
  refine (if_pos (by simp [hX, hY])).trans ?_
  refine (if_pos (AV.beq_self _)).trans ?_
  refine (if_pos (cdec_true.2 (sayPut (l := putR l 2 2 to) rfl rfl (by rw [putR_length]) (by rw [putR_length]; exact hl) ⟨by decide, by rw [putR_length]; omega⟩ hcr rfl))).trans ?_
  rfl

theorem runPortB (l A B X Y : List UInt8) (v : Bool) (to s u c : Int) (hl : l.length ≤ 1000000000000) (hto : 0 ≤ to ∧ to < 65536) (hr : segR 17 l = 0) (hX : X.length = 16) (hY : Y.length = 16) (hA : adrBytes (.bool v :: bys X) = A) (hB : adrBytes (.bool v :: bys Y) = B)
    (hs : word l 6 = s) (hu : updI s (word l 2) to = u) (hc : changeI u A B = c) (hs0 : s ≠ 0) (hc0 : c ≠ 0) : ∃ h1, Runs Try.prog 23 [.int .u8 17, slB 0 l, .int .u16 to, .agg (.bool v :: bys X), .agg (.bool v :: bys Y)] [farB l] (.sl (some (4, 0)) l.length 0 false) h1 ∧ ∃ par, h1[4]? = some (.cells (bys (putR (putR l 2 2 to) 6 2 c)) 1 .own par) := by
  have hn : 8 ≤ l.length := by rcases segR_len hr with h | h <;> omega
  have w2 := word_range l 2
  have ws := word_range l 6
  rw [hs] at ws
  have hwX : adrWf (List.take 17 (AV.bool v :: bys X)) = true := by rw [adrB_17 hX]; exact adrB_wf hX
  have hwY : adrWf (List.take 17 (AV.bool v :: bys Y)) = true := by rw [adrB_17 hY]; exact adrB_wf hY
  have hAX : adrBytes (List.take 17 (AV.bool v :: bys X)) = A := by rw [adrB_17 hX]; exact hA
  have hBY : adrBytes (List.take 17 (AV.bool v :: bys Y)) = B := by rw [adrB_17 hY]; exact hB
  have hur : 0 ≤ u ∧ u < 65536 := by rw [← hu]; exact updI_range _ _ _
  have hcr : 0 ≤ c ∧ c < 65536 := by rw [← hc]; exact changeI_range _ _ hur
  have hAl : nOf (.sl (some (5, 0)) A.length 0 false) ≤ 70368744177664 := by
    show A.length ≤ _
    rw [← hA]; cases v <;> simp [adrBytes, hX]
  refine ⟨hPortB10 l (putR l 2 2 to) (putR (putR l 2 2 to) 6 2 c) A B X Y v v to (word l 0) s (word l 2) (segF 17 l) u c, Runs.ofT0 (tPortOk l (putR l 2 2 to) (putR (putR l 2 2 to) 6 2 c) A B (hd7 (word l 0) (word l 2) (segF 17 l)) s u c) (F := 100) (n := 4) (pr := [(24, .bool false), (30, .bool false), (49, .bool false), (67, .bool false)]) ?_, none, rfl⟩
  refine (nfPortB l (putR l 2 2 to) (putR (putR l 2 2 to) 6 2 c) A B X Y v v to (word l 0) s (word l 2) (segF 17 l) u c _).trans ?_
  refine (if_pos (cdec_true.2 (saySegR (bOk_row rfl rfl rfl) hl (segRead_Y hr).1))).trans ?_
  refine (if_pos (by simp)).trans ?_
  refine (if_pos (cdec_true.2 (sayClone (bOk_row rfl rfl rfl) hl rfl))).trans ?_
  refine (if_pos (cdec_true.2 (sayPut (l := l) rfl rfl rfl hl ⟨by decide, by omega⟩ hto rfl))).trans ?_
  refine (if_pos (cdec_true.2 (sayW (bOk_row rfl rfl rfl) ⟨by simp; omega, by decide, by simp; omega⟩ (by decide) hs))).trans ?_
  refine (if_pos (by simp [hs0])).trans ?_
  refine (if_pos (cdec_true.2 (sayUpd ws w2 hto hu))).trans ?_
  refine (if_pos (by simp [hX, hY])).trans ?_
  refine (if_pos (cdec_true.2 (sayBytes hwX hAX rfl))).trans ?_
  refine (if_pos (by simp [hX, hY])).trans ?_
  refine (if_pos (cdec_true.2 (sayBytes hwY hBY rfl))).trans ?_
  refine (if_pos (cdec_true.2 (sayChange (A := A) (B := B) (bOk_row rfl rfl rfl) (bOk_row rfl rfl rfl) ⟨hAl, hur⟩ hc))).trans ?_
  refine (if_pos (by simp [hX, hY])).trans ?_
  refine (if_pos (AV.beq_self _)).trans ?_
  refine (if_pos (by simp [hc0])).trans ?_
  refine (if_pos (cdec_true.2 (sayPut (l := putR l 2 2 to) rfl rfl (by rw [putR_length]) (by rw [putR_length]; exact hl) ⟨by decide, by rw [putR_length]; omega⟩ hcr rfl))).trans ?_
  rfl

theorem runPortC (l A B X Y : List UInt8) (v : Bool) (to s u c : Int) (hl : l.length ≤ 1000000000000) (hto : 0 ≤ to ∧ to < 65536) (hr : segR 17 l = 0) (hX : X.length = 16) (hY : Y.length = 16) (hA : adrBytes (.bool v :: bys X) = A) (hB : adrBytes (.bool v :: bys Y) = B)
    (hs : word l 6 = s) (hs0 : s = 0) : ∃ h1, Runs Try.prog 23 [.int .u8 17, slB 0 l, .int .u16 to, .agg (.bool v :: bys X), .agg (.bool v :: bys Y)] [farB l] (.sl (some (4, 0)) l.length 0 false) h1 ∧ ∃ par, h1[4]? = some (.cells (bys (putR l 2 2 to)) 1 .own par) := by
  have hn : 8 ≤ l.length := by rcases segR_len hr with h | h <;> omega
  have w2 := word_range l 2
  have ws := word_range l 6
  rw [hs] at ws
  have hwX : adrWf (List.take 17 (AV.bool v :: bys X)) = true := by rw [adrB_17 hX]; exact adrB_wf hX
  have hwY : adrWf (List.take 17 (AV.bool v :: bys Y)) = true := by rw [adrB_17 hY]; exact adrB_wf hY
  have hAX : adrBytes (List.take 17 (AV.bool v :: bys X)) = A := by rw [adrB_17 hX]; exact hA
  have hBY : adrBytes (List.take 17 (AV.bool v :: bys Y)) = B := by rw [adrB_17 hY]; exact hB
  refine ⟨hPortC5 l (putR l 2 2 to) (putR l 2 2 to) A B X Y v v to (word l 0) s (word l 2) (segF 17 l) 0 0, Runs.ofT0 (tPortOk l (putR l 2 2 to) (putR l 2 2 to) A B (hd7 (word l 0) (word l 2) (segF 17 l)) s 0 0) (F := 100) (n := 4) (pr := [(24, .bool false), (30, .bool false), (49, .bool true)]) ?_, none, rfl⟩
  refine (nfPortC l (putR l 2 2 to) (putR l 2 2 to) A B X Y v v to (word l 0) s (word l 2) (segF 17 l) 0 0 _).trans ?_
  refine (if_pos (cdec_true.2 (saySegR (bOk_row rfl rfl rfl) hl (segRead_Y hr).1))).trans ?_
  refine (if_pos (by simp)).trans ?_
  refine (if_pos (cdec_true.2 (sayClone (bOk_row rfl rfl rfl) hl rfl))).trans ?_
  refine (if_pos (cdec_true.2 (sayPut (l := l) rfl rfl rfl hl ⟨by decide, by omega⟩ hto rfl))).trans ?_
  refine (if_pos (cdec_true.2 (sayW (bOk_row rfl rfl rfl) ⟨by simp; omega, by decide, by simp; omega⟩ (by decide) hs))).trans ?_
  refine (if_pos (by simp [hs0])).trans ?_
  rfl

theorem runPortD (l A B X Y : List UInt8) (v : Bool) (to s u c : Int) (hl : l.length ≤ 1000000000000) (hto : 0 ≤ to ∧ to < 65536) (hr : segR 17 l = 0) (hX : X.length = 16) (hY : Y.length = 16) (hA : adrBytes (.bool v :: bys X) = A) (hB : adrBytes (.bool v :: bys Y) = B)
    (hs : word l 6 = s) (hu : updI s (word l 2) to = u) (hc : changeI u A B = c) (hs0 : s ≠ 0) (hc0 : c = 0) : ∃ h1, Runs Try.prog 23 [.int .u8 17, slB 0 l, .int .u16 to, .agg (.bool v :: bys X), .agg (.bool v :: bys Y)] [farB l] (.sl (some (4, 0)) l.length 0 false) h1 ∧ ∃ par, h1[4]? = some (.cells (bys (putR (putR l 2 2 to) 6 2 65535)) 1 .own par) := by
  have hn : 8 ≤ l.length := by rcases segR_len hr with h | h <;> omega
  have w2 := word_range l 2
  have ws := word_range l 6
  rw [hs] at ws
  have hwX : adrWf (List.take 17 (AV.bool v :: bys X)) = true := by rw [adrB_17 hX]; exact adrB_wf hX
  have hwY : adrWf (List.take 17 (AV.bool v :: bys Y)) = true := by rw [adrB_17 hY]; exact adrB_wf hY
  have hAX : adrBytes (List.take 17 (AV.bool v :: bys X)) = A := by rw [adrB_17 hX]; exact hA
  have hBY : adrBytes (List.take 17 (AV.bool v :: bys Y)) = B := by rw [adrB_17 hY]; exact hB
  have hur : 0 ≤ u ∧ u < 65536 := by rw [← hu]; exact updI_range _ _ _
  have hcr : 0 ≤ c ∧ c < 65536 := by rw [← hc]; exact changeI_range _ _ hur
  have hAl : nOf (.sl (some (5, 0)) A.length 0 false) ≤ 70368744177664 := by
    show A.length ≤ _
    rw [← hA]; cases v <;> simp [adrBytes, hX]
  refine ⟨hPortD10 l (putR l 2 2 to) (putR (putR l 2 2 to) 6 2 65535) A B X Y v v to (word l 0) s (word l 2) (segF 17 l) u c, Runs.ofT0 (tPortOk l (putR l 2 2 to) (putR (putR l 2 2 to) 6 2 65535) A B (hd7 (word l 0) (word l 2) (segF 17 l)) s u c) (F := 100) (n := 4) (pr := [(24, .bool false), (30, .bool false), (49, .bool false), (67, .bool true)]) ?_, none, rfl⟩
  refine (nfPortD l (putR l 2 2 to) (putR (putR l 2 2 to) 6 2 65535) A B X Y v v to (word l 0) s (word l 2) (segF 17 l) u c _).trans ?_
  refine (if_pos (cdec_true.2 (saySegR (bOk_row rfl rfl rfl) hl (segRead_Y hr).1))).trans ?_
  refine (if_pos (by simp)).trans ?_
  refine (if_pos (cdec_true.2 (sayClone (bOk_row rfl rfl rfl) hl rfl))).trans ?_
  refine (if_pos (cdec_true.2 (sayPut (l := l) rfl rfl rfl hl ⟨by decide, by omega⟩ hto rfl))).trans ?_
  refine (if_pos (cdec_true.2 (sayW (bOk_row rfl rfl rfl) ⟨by simp; omega, by decide, by simp; omega⟩ (by decide) hs))).trans ?_
  refine (if_pos (by simp [hs0])).trans ?_
  refine (if_pos (cdec_true.2 (sayUpd ws w2 hto hu))).trans ?_
  refine (if_pos (by simp [hX, hY])).trans ?_
  refine (if_pos (cdec_true.2 (sayBytes hwX hAX rfl))).trans ?_
  refine (if_pos (by simp [hX, hY])).trans ?_
  refine (if_pos (cdec_true.2 (sayBytes hwY hBY rfl))).trans ?_
  refine (if_pos (cdec_true.2 (sayChange (A := A) (B := B) (bOk_row rfl rfl rfl) (bOk_row rfl rfl rfl) ⟨hAl, hur⟩ hc))).trans ?_
  refine (if_pos (by simp [hX, hY])).trans ?_
  refine (if_pos (AV.beq_self _)).trans ?_
  refine (if_pos (by simp [hc0])).trans ?_
  refine (if_pos (cdec_true.2 (sayPut (l := putR l 2 2 to) rfl rfl (by rw [putR_length]) (by rw [putR_length]; exact hl) ⟨by decide, by rw [putR_length]; omega⟩ (by decide) rfl))).trans ?_
  rfl

theorem changeI_word {l : List UInt8} {o to : Int} (hl : 4 ≤ l.length) (hto : 0 ≤ to ∧ to < 65536) : changeI o ((l.drop 2).take 2) (((putR l 2 2 to).drop 2).take 2) = updI o (word l 2) to := by
  rw [show ((2 : Int)) = ((2 : Nat) : Int) from rfl, putR_two (by omega)]
  match l, hl with
  | a :: b :: c :: d :: t, _ =>
    have h1 := u8i_toNat (to.fdiv 256)
    have h2 := u8i_toNat to
    rw [Int.fdiv_eq_ediv_of_nonneg _ (by omega)] at h1
    have e1 : List.take 2 (List.drop 2 (a :: b :: c :: d :: t)) = [c, d] := rfl
    have e2 : ∀ x y : UInt8, List.take 2 (List.drop 2 (((a :: b :: c :: d :: t).set 2 x).set (2 + 1) y)) = [x, y] := fun _ _ => rfl
    rw [e1, e2]
    unfold changeI
    rw [if_pos ⟨by simp, by simp⟩]
    show updI o ((c.toNat : Int) * 256 + d.toNat) (((u8i (to.fdiv 256)).toNat : Int) * 256 + (u8i to).toNat) = updI o ((c.toNat : Int) * 256 + d.toNat) to
    rw [Int.fdiv_eq_ediv_of_nonneg _ (by omega), h1, h2]
    congr 1; omega

theorem runRPortA (l A B X Y : List UInt8) (v : Bool) (to s u c : Int) (hl : l.length ≤ 1000000000000) (hto : 0 ≤ to ∧ to < 65536) (hr : segR 6 l = 0) (hX : X.length = 16) (hY : Y.length = 16) (hA : adrBytes (.bool v :: bys X) = A) (hB : adrBytes (.bool v :: bys Y) = B)
    (hs : word l 16 = s) (hu : updI s (word l 2) to = u) (hc : changeI u A B = c) : ∃ h1, Runs Try.prog 25 [.int .u8 6, slB 0 l, .int .i64 to, .agg (.bool v :: bys X), .agg (.bool v :: bys Y)] [farB l] (.sl (some (5, 0)) (0 + l.length) 0 false) h1 ∧ ∃ par, h1[5]? = some (.cells (bys (putR (putR l 2 2 to) 16 2 c)) 1 .own par) := by
  have hn : 20 ≤ l.length := by rcases segR_len hr with h | h <;> omega
  have w2 := word_range l 2
  have ws := word_range l 16
  rw [hs] at ws
  have hwX : adrWf (List.take 17 (AV.bool v :: bys X)) = true := by rw [adrB_17 hX]; exact adrB_wf hX
  have hwY : adrWf (List.take 17 (AV.bool v :: bys Y)) = true := by rw [adrB_17 hY]; exact adrB_wf hY
  have hAX : adrBytes (List.take 17 (AV.bool v :: bys X)) = A := by rw [adrB_17 hX]; exact hA
  have hBY : adrBytes (List.take 17 (AV.bool v :: bys Y)) = B := by rw [adrB_17 hY]; exact hB
  have hur : 0 ≤ u ∧ u < 65536 := by rw [← hu]; exact updI_range _ _ _
  have hcr : 0 ≤ c ∧ c < 65536 := by rw [← hc]; exact changeI_range _ _ hur
  have k1 : putCells (putCells (List.take (l.length * 1) (bys l)) 2 [AV.int IntKind.u8 (IntKind.u8.wrap (to.fdiv 256))]) 3 [AV.int IntKind.u8 (IntKind.u8.wrap to)] = bys (putR l 2 2 to) := put2 (p := 2) (bys_full l) (by omega) rfl rfl
  have hAl : nOf (.sl (some (6, 0)) A.length 0 false) ≤ 70368744177664 := by
    show A.length ≤ _
    rw [← hA]; cases v <;> simp [adrBytes, hX]
  have k2 : putCells (putCells (putCells (putCells (List.take (l.length * 1) (bys l)) 2 [AV.int IntKind.u8 (IntKind.u8.wrap (to.fdiv 256))]) 3 [AV.int IntKind.u8 (IntKind.u8.wrap to)]) 16 [AV.int IntKind.u8 (IntKind.u8.wrap (c.fdiv 256))]) 17 [AV.int IntKind.u8 (IntKind.u8.wrap c)] = bys (putR (putR l 2 2 to) 16 2 c) := put2 (p := 16) (v := c) k1 (by rw [putR_length]; omega) rfl rfl
  refine ⟨hRPortA7 l (putR l 2 2 to) (putR (putR l 2 2 to) 16 2 c) A B X Y v v to (word l 0) s (word l 2) (segF 6 l) u c, Runs.ofT0 (tRPortOk l (putR l 2 2 to) A B (rd7 (word l 0) (word l 2) (segF 6 l)) s u c) (F := 100) (n := 4) (pr := [(24, .bool false), (30, .bool false)]) ?_, none, congrArg some (congrArg (fun z => ABlk.cells z 1 Md.own none) k2)⟩
  refine (nfRPortA l (putR l 2 2 to) (putR (putR l 2 2 to) 16 2 c) A B X Y v v to (word l 0) s (word l 2) (segF 6 l) u c _).trans ?_
  refine (if_pos (cdec_true.2 (sayRSegR (bOk_row rfl rfl rfl) hl (segRead_Y hr).2))).trans ?_
  refine (if_pos (by simp)).trans ?_
  refine (if_pos (by first | exact True.intro | rfl | omega | (simp; done) | (simp; omega) | (simp [capOf]; done) | (simp [capOf]; omega))).trans ?_
  refine (if_pos (by first | exact True.intro | rfl | omega | (simp; done) | (simp; omega) | (simp [capOf]; done) | (simp [capOf]; omega))).trans ?_
  refine (if_pos (by first | exact True.intro | rfl | omega | (simp; done) | (simp; omega) | (simp [capOf]; done) | (simp [capOf]; omega))).trans ?_
  refine (if_pos (by first | exact True.intro | rfl | omega | (simp; done) | (simp; omega) | (simp [capOf]; done) | (simp [capOf]; omega))).trans ?_
  refine (if_pos (by first | exact True.intro | rfl | omega | (simp; done) | (simp; omega) | (simp [capOf]; done) | (simp [capOf]; omega))).trans ?_
  refine (if_pos (by first | exact True.intro | rfl | omega | (simp; done) | (simp; omega) | (simp [capOf]; done) | (simp [capOf]; omega))).trans ?_
  refine (if_pos (by first | exact True.intro | rfl | omega | (simp; done) | (simp; omega) | (simp [capOf]; done) | (simp [capOf]; omega))).trans ?_
  refine (if_pos (cdec_true.2 (sayBe (bOk_row rfl rfl rfl) ⟨by simp; omega, by decide, by simp; omega⟩ (by decide) hs))).trans ?_
  refine (if_pos (by first | exact True.intro | rfl | omega | (simp; done) | (simp; omega) | (simp [capOf]; done) | (simp [capOf]; omega))).trans ?_
  refine (if_pos (by first | exact True.intro | rfl | omega | (simp; done) | (simp; omega) | (simp [capOf]; done) | (simp [capOf]; omega))).trans ?_
  refine (if_pos (cdec_true.2 (sayRChange (A := (l.drop 2).take 2) (B := ((putR l 2 2 to).drop 2).take 2) (bOk_part rfl rfl (by omega)) (bOk_part rfl k1 (by rw [putR_length]; omega)) ⟨by simp, ws⟩ (by rw [changeI_word (by omega) hto]; exact hu)))).trans ?_
  refine (if_pos (by simp [hX, hY])).trans ?_
  refine (if_pos (cdec_true.2 (sayBytes hwX hAX rfl))).trans ?_
  refine (if_pos (by simp [hX, hY])).trans ?_
  refine (if_pos (cdec_true.2 (sayBytes hwY hBY rfl))).trans ?_
  refine (if_pos (cdec_true.2 (sayRChange (A := A) (B := B) (bOk_row rfl rfl rfl) (bOk_row rfl rfl rfl) ⟨hAl, hur⟩ hc))).trans ?_
  refine (if_pos (by simp [hX, hY])).trans ?_
  refine (if_pos (AV.beq_self _)).trans ?_
  refine (if_pos (by simp [hX, hY])).trans ?_
  refine (if_pos (AV.beq_self _)).trans ?_
  refine (if_pos (by simp [hX, hY])).trans ?_
  refine (if_pos (AV.beq_self _)).trans ?_
  refine (if_pos (by first | exact True.intro | rfl | omega | (simp; done) | (simp; omega) | (simp [capOf]; done) | (simp [capOf]; omega))).trans ?_
  refine (if_pos (by first | exact True.intro | rfl | omega | (simp; done) | (simp; omega) | (simp [capOf]; done) | (simp [capOf]; omega))).trans ?_
  refine (if_pos (by first | exact True.intro | rfl | omega | (simp; done) | (simp; omega) | (simp [capOf]; done) | (simp [capOf]; omega))).trans ?_
  refine (if_pos (by first | exact True.intro | rfl | omega | (simp; done) | (simp; omega) | (simp [capOf]; done) | (simp [capOf]; omega))).trans ?_
  rfl

theorem runRPortB (l A B X Y : List UInt8) (v : Bool) (to s u c : Int) (hl : l.length ≤ 1000000000000) (hto : 0 ≤ to ∧ to < 65536) (hr : segR 17 l = 0) (hX : X.length = 16) (hY : Y.length = 16) (hA : adrBytes (.bool v :: bys X) = A) (hB : adrBytes (.bool v :: bys Y) = B)
    (hs : word l 6 = s) (hu : updI s (word l 2) to = u) (hc : changeI u A B = c) (hs0 : s ≠ 0) (hc0 : c ≠ 0) : ∃ h1, Runs Try.prog 25 [.int .u8 17, slB 0 l, .int .i64 to, .agg (.bool v :: bys X), .agg (.bool v :: bys Y)] [farB l] (.sl (some (5, 0)) (0 + l.length) 0 false) h1 ∧ ∃ par, h1[5]? = some (.cells (bys (putR (putR l 2 2 to) 6 2 c)) 1 .own par) := by
  have hn : 8 ≤ l.length := by rcases segR_len hr with h | h <;> omega
  have w2 := word_range l 2
  have ws := word_range l 6
  rw [hs] at ws
  have hwX : adrWf (List.take 17 (AV.bool v :: bys X)) = true := by rw [adrB_17 hX]; exact adrB_wf hX
  have hwY : adrWf (List.take 17 (AV.bool v :: bys Y)) = true := by rw [adrB_17 hY]; exact adrB_wf hY
  have hAX : adrBytes (List.take 17 (AV.bool v :: bys X)) = A := by rw [adrB_17 hX]; exact hA
  have hBY : adrBytes (List.take 17 (AV.bool v :: bys Y)) = B := by rw [adrB_17 hY]; exact hB
  have hur : 0 ≤ u ∧ u < 65536 := by rw [← hu]; exact updI_range _ _ _
  have hcr : 0 ≤ c ∧ c < 65536 := by rw [← hc]; exact changeI_range _ _ hur
  have k1 : putCells (putCells (List.take (l.length * 1) (bys l)) 2 [AV.int IntKind.u8 (IntKind.u8.wrap (to.fdiv 256))]) 3 [AV.int IntKind.u8 (IntKind.u8.wrap to)] = bys (putR l 2 2 to) := put2 (p := 2) (bys_full l) (by omega) rfl rfl
  have hAl : nOf (.sl (some (6, 0)) A.length 0 false) ≤ 70368744177664 := by
    show A.length ≤ _
    rw [← hA]; cases v <;> simp [adrBytes, hX]
  have k2 : putCells (putCells (putCells (putCells (List.take (l.length * 1) (bys l)) 2 [AV.int IntKind.u8 (IntKind.u8.wrap (to.fdiv 256))]) 3 [AV.int IntKind.u8 (IntKind.u8.wrap to)]) 6 [AV.int IntKind.u8 (IntKind.u8.wrap (c.fdiv 256))]) 7 [AV.int IntKind.u8 (IntKind.u8.wrap c)] = bys (putR (putR l 2 2 to) 6 2 c) := put2 (p := 6) (v := c) k1 (by rw [putR_length]; omega) rfl rfl
  refine ⟨hRPortB7 l (putR l 2 2 to) (putR (putR l 2 2 to) 6 2 c) A B X Y v v to (word l 0) s (word l 2) (segF 17 l) u c, Runs.ofT0 (tRPortOk l (putR l 2 2 to) A B (rd7 (word l 0) (word l 2) (segF 17 l)) s u c) (F := 100) (n := 4) (pr := [(24, .bool false), (30, .bool false), (47, .bool false), (65, .bool false)]) ?_, none, congrArg some (congrArg (fun z => ABlk.cells z 1 Md.own none) k2)⟩
  refine (nfRPortB l (putR l 2 2 to) (putR (putR l 2 2 to) 6 2 c) A B X Y v v to (word l 0) s (word l 2) (segF 17 l) u c _).trans ?_
  refine (if_pos (cdec_true.2 (sayRSegR (bOk_row rfl rfl rfl) hl (segRead_Y hr).2))).trans ?_
  refine (if_pos (by simp)).trans ?_
  refine (if_pos (by first | exact True.intro | rfl | omega | (simp; done) | (simp; omega) | (simp [capOf]; done) | (simp [capOf]; omega))).trans ?_
  refine (if_pos (by first | exact True.intro | rfl | omega | (simp; done) | (simp; omega) | (simp [capOf]; done) | (simp [capOf]; omega))).trans ?_
  refine (if_pos (by first | exact True.intro | rfl | omega | (simp; done) | (simp; omega) | (simp [capOf]; done) | (simp [capOf]; omega))).trans ?_
  refine (if_pos (by first | exact True.intro | rfl | omega | (simp; done) | (simp; omega) | (simp [capOf]; done) | (simp [capOf]; omega))).trans ?_
  refine (if_pos (by first | exact True.intro | rfl | omega | (simp; done) | (simp; omega) | (simp [capOf]; done) | (simp [capOf]; omega))).trans ?_
  refine (if_pos (by first | exact True.intro | rfl | omega | (simp; done) | (simp; omega) | (simp [capOf]; done) | (simp [capOf]; omega))).trans ?_
  refine (if_pos (by first | exact True.intro | rfl | omega | (simp; done) | (simp; omega) | (simp [capOf]; done) | (simp [capOf]; omega))).trans ?_
  refine (if_pos (cdec_true.2 (sayBe (bOk_row rfl rfl rfl) ⟨by simp; omega, by decide, by simp; omega⟩ (by decide) hs))).trans ?_
  refine (if_pos (by simp [hs0])).trans ?_
  refine (if_pos (by first | exact True.intro | rfl | omega | (simp; done) | (simp; omega) | (simp [capOf]; done) | (simp [capOf]; omega))).trans ?_
  refine (if_pos (by first | exact True.intro | rfl | omega | (simp; done) | (simp; omega) | (simp [capOf]; done) | (simp [capOf]; omega))).trans ?_
  refine (if_pos (cdec_true.2 (sayRChange (A := (l.drop 2).take 2) (B := ((putR l 2 2 to).drop 2).take 2) (bOk_part rfl rfl (by omega)) (bOk_part rfl k1 (by rw [putR_length]; omega)) ⟨by simp, ws⟩ (by rw [changeI_word (by omega) hto]; exact hu)))).trans ?_
  refine (if_pos (by simp [hX, hY])).trans ?_
  refine (if_pos (cdec_true.2 (sayBytes hwX hAX rfl))).trans ?_
  refine (if_pos (by simp [hX, hY])).trans ?_
  refine (if_pos (cdec_true.2 (sayBytes hwY hBY rfl))).trans ?_
  refine (if_pos (cdec_true.2 (sayRChange (A := A) (B := B) (bOk_row rfl rfl rfl) (bOk_row rfl rfl rfl) ⟨hAl, hur⟩ hc))).trans ?_
  refine (if_pos (by simp [hX, hY])).trans ?_
  refine (if_pos (AV.beq_self _)).trans ?_
  refine (if_pos (by simp [hX, hY])).trans ?_
  refine (if_pos (AV.beq_self _)).trans ?_
  refine (if_pos (by simp [hX, hY])).trans ?_
  refine (if_pos (AV.beq_self _)).trans ?_
  refine (if_pos (by simp [hc0])).trans ?_
  refine (if_pos (by first | exact True.intro | rfl | omega | (simp; done) | (simp; omega) | (simp [capOf]; done) | (simp [capOf]; omega))).trans ?_
  refine (if_pos (by first | exact True.intro | rfl | omega | (simp; done) | (simp; omega) | (simp [capOf]; done) | (simp [capOf]; omega))).trans ?_
  refine (if_pos (by first | exact True.intro | rfl | omega | (simp; done) | (simp; omega) | (simp [capOf]; done) | (simp [capOf]; omega))).trans ?_
  refine (if_pos (by first | exact True.intro | rfl | omega | (simp; done) | (simp; omega) | (simp [capOf]; done) | (simp [capOf]; omega))).trans ?_
  rfl

theorem runRPortC (l A B X Y : List UInt8) (v : Bool) (to s u c : Int) (hl : l.length ≤ 1000000000000) (hto : 0 ≤ to ∧ to < 65536) (hr : segR 17 l = 0) (hX : X.length = 16) (hY : Y.length = 16) (hA : adrBytes (.bool v :: bys X) = A) (hB : adrBytes (.bool v :: bys Y) = B)
    (hs : word l 6 = s) (hs0 : s = 0) : ∃ h1, Runs Try.prog 25 [.int .u8 17, slB 0 l, .int .i64 to, .agg (.bool v :: bys X), .agg (.bool v :: bys Y)] [farB l] (.sl (some (5, 0)) (0 + l.length) 0 false) h1 ∧ ∃ par, h1[5]? = some (.cells (bys (putR l 2 2 to)) 1 .own par) := by
  have hn : 8 ≤ l.length := by rcases segR_len hr with h | h <;> omega
  have w2 := word_range l 2
  have ws := word_range l 6
  rw [hs] at ws
  have hwX : adrWf (List.take 17 (AV.bool v :: bys X)) = true := by rw [adrB_17 hX]; exact adrB_wf hX
  have hwY : adrWf (List.take 17 (AV.bool v :: bys Y)) = true := by rw [adrB_17 hY]; exact adrB_wf hY
  have hAX : adrBytes (List.take 17 (AV.bool v :: bys X)) = A := by rw [adrB_17 hX]; exact hA
  have hBY : adrBytes (List.take 17 (AV.bool v :: bys Y)) = B := by rw [adrB_17 hY]; exact hB
  have k1 : putCells (putCells (List.take (l.length * 1) (bys l)) 2 [AV.int IntKind.u8 (IntKind.u8.wrap (to.fdiv 256))]) 3 [AV.int IntKind.u8 (IntKind.u8.wrap to)] = bys (putR l 2 2 to) := put2 (p := 2) (bys_full l) (by omega) rfl rfl
  refine ⟨hRPortC2 l (putR l 2 2 to) (putR l 2 2 to) A B X Y v v to (word l 0) s (word l 2) (segF 17 l) 0 0, Runs.ofT0 (tRPortOk l (putR l 2 2 to) A B (rd7 (word l 0) (word l 2) (segF 17 l)) s 0 0) (F := 100) (n := 4) (pr := [(24, .bool false), (30, .bool false), (47, .bool true)]) ?_, none, congrArg some (congrArg (fun z => ABlk.cells z 1 Md.own none) k1)⟩
  refine (nfRPortC l (putR l 2 2 to) (putR l 2 2 to) A B X Y v v to (word l 0) s (word l 2) (segF 17 l) 0 0 _).trans ?_
  refine (if_pos (cdec_true.2 (sayRSegR (bOk_row rfl rfl rfl) hl (segRead_Y hr).2))).trans ?_
  refine (if_pos (by simp)).trans ?_
  refine (if_pos (by first | exact True.intro | rfl | omega | (simp; done) | (simp; omega) | (simp [capOf]; done) | (simp [capOf]; omega))).trans ?_
  refine (if_pos (by first | exact True.intro | rfl | omega | (simp; done) | (simp; omega) | (simp [capOf]; done) | (simp [capOf]; omega))).trans ?_
  refine (if_pos (by first | exact True.intro | rfl | omega | (simp; done) | (simp; omega) | (simp [capOf]; done) | (simp [capOf]; omega))).trans ?_
  refine (if_pos (by first | exact True.intro | rfl | omega | (simp; done) | (simp; omega) | (simp [capOf]; done) | (simp [capOf]; omega))).trans ?_
  refine (if_pos (by first | exact True.intro | rfl | omega | (simp; done) | (simp; omega) | (simp [capOf]; done) | (simp [capOf]; omega))).trans ?_
  refine (if_pos (by first | exact True.intro | rfl | omega | (simp; done) | (simp; omega) | (simp [capOf]; done) | (simp [capOf]; omega))).trans ?_
  refine (if_pos (by first | exact True.intro | rfl | omega | (simp; done) | (simp; omega) | (simp [capOf]; done) | (simp [capOf]; omega))).trans ?_
  refine (if_pos (cdec_true.2 (sayBe (bOk_row rfl rfl rfl) ⟨by simp; omega, by decide, by simp; omega⟩ (by decide) hs))).trans ?_
  refine (if_pos (by simp [hs0])).trans ?_
  rfl

theorem runRPortD (l A B X Y : List UInt8) (v : Bool) (to s u c : Int) (hl : l.length ≤ 1000000000000) (hto : 0 ≤ to ∧ to < 65536) (hr : segR 17 l = 0) (hX : X.length = 16) (hY : Y.length = 16) (hA : adrBytes (.bool v :: bys X) = A) (hB : adrBytes (.bool v :: bys Y) = B)
    (hs : word l 6 = s) (hu : updI s (word l 2) to = u) (hc : changeI u A B = c) (hs0 : s ≠ 0) (hc0 : c = 0) : ∃ h1, Runs Try.prog 25 [.int .u8 17, slB 0 l, .int .i64 to, .agg (.bool v :: bys X), .agg (.bool v :: bys Y)] [farB l] (.sl (some (5, 0)) (0 + l.length) 0 false) h1 ∧ ∃ par, h1[5]? = some (.cells (bys (putR (putR l 2 2 to) 6 2 65535)) 1 .own par) := by
  have hn : 8 ≤ l.length := by rcases segR_len hr with h | h <;> omega
  have w2 := word_range l 2
  have ws := word_range l 6
  rw [hs] at ws
  have hwX : adrWf (List.take 17 (AV.bool v :: bys X)) = true := by rw [adrB_17 hX]; exact adrB_wf hX
  have hwY : adrWf (List.take 17 (AV.bool v :: bys Y)) = true := by rw [adrB_17 hY]; exact adrB_wf hY
  have hAX : adrBytes (List.take 17 (AV.bool v :: bys X)) = A := by rw [adrB_17 hX]; exact hA
  have hBY : adrBytes (List.take 17 (AV.bool v :: bys Y)) = B := by rw [adrB_17 hY]; exact hB
  have hur : 0 ≤ u ∧ u < 65536 := by rw [← hu]; exact updI_range _ _ _
  have hcr : 0 ≤ c ∧ c < 65536 := by rw [← hc]; exact changeI_range _ _ hur
  have k1 : putCells (putCells (List.take (l.length * 1) (bys l)) 2 [AV.int IntKind.u8 (IntKind.u8.wrap (to.fdiv 256))]) 3 [AV.int IntKind.u8 (IntKind.u8.wrap to)] = bys (putR l 2 2 to) := put2 (p := 2) (bys_full l) (by omega) rfl rfl
  have hAl : nOf (.sl (some (6, 0)) A.length 0 false) ≤ 70368744177664 := by
    show A.length ≤ _
    rw [← hA]; cases v <;> simp [adrBytes, hX]
  have k2 : putCells (putCells (putCells (putCells (List.take (l.length * 1) (bys l)) 2 [AV.int IntKind.u8 (IntKind.u8.wrap (to.fdiv 256))]) 3 [AV.int IntKind.u8 (IntKind.u8.wrap to)]) 6 [AV.int IntKind.u8 255]) 7 [AV.int IntKind.u8 255] = bys (putR (putR l 2 2 to) 6 2 65535) := put2 (p := 6) (v := 65535) k1 (by rw [putR_length]; omega) (by decide) (by decide)
  refine ⟨hRPortD7 l (putR l 2 2 to) (putR (putR l 2 2 to) 6 2 65535) A B X Y v v to (word l 0) s (word l 2) (segF 17 l) u c, Runs.ofT0 (tRPortOk l (putR l 2 2 to) A B (rd7 (word l 0) (word l 2) (segF 17 l)) s u c) (F := 100) (n := 4) (pr := [(24, .bool false), (30, .bool false), (47, .bool false), (65, .bool true)]) ?_, none, congrArg some (congrArg (fun z => ABlk.cells z 1 Md.own none) k2)⟩
  refine (nfRPortD l (putR l 2 2 to) (putR (putR l 2 2 to) 6 2 65535) A B X Y v v to (word l 0) s (word l 2) (segF 17 l) u c _).trans ?_
  refine (if_pos (cdec_true.2 (sayRSegR (bOk_row rfl rfl rfl) hl (segRead_Y hr).2))).trans ?_
  refine (if_pos (by simp)).trans ?_
  refine (if_pos (by first | exact True.intro | rfl | omega | (simp; done) | (simp; omega) | (simp [capOf]; done) | (simp [capOf]; omega))).trans ?_
  refine (if_pos (by first | exact True.intro | rfl | omega | (simp; done) | (simp; omega) | (simp [capOf]; done) | (simp [capOf]; omega))).trans ?_
  refine (if_pos (by first | exact True.intro | rfl | omega | (simp; done) | (simp; omega) | (simp [capOf]; done) | (simp [capOf]; omega))).trans ?_
  refine (if_pos (by first | exact True.intro | rfl | omega | (simp; done) | (simp; omega) | (simp [capOf]; done) | (simp [capOf]; omega))).trans ?_
  refine (if_pos (by first | exact True.intro | rfl | omega | (simp; done) | (simp; omega) | (simp [capOf]; done) | (simp [capOf]; omega))).trans ?_
  refine (if_pos (by first | exact True.intro | rfl | omega | (simp; done) | (simp; omega) | (simp [capOf]; done) | (simp [capOf]; omega))).trans ?_
  refine (if_pos (by first | exact True.intro | rfl | omega | (simp; done) | (simp; omega) | (simp [capOf]; done) | (simp [capOf]; omega))).trans ?_
  refine (if_pos (cdec_true.2 (sayBe (bOk_row rfl rfl rfl) ⟨by simp; omega, by decide, by simp; omega⟩ (by decide) hs))).trans ?_
  refine (if_pos (by simp [hs0])).trans ?_
  refine (if_pos (by first | exact True.intro | rfl | omega | (simp; done) | (simp; omega) | (simp [capOf]; done) | (simp [capOf]; omega))).trans ?_
  refine (if_pos (by first | exact True.intro | rfl | omega | (simp; done) | (simp; omega) | (simp [capOf]; done) | (simp [capOf]; omega))).trans ?_
  refine (if_pos (cdec_true.2 (sayRChange (A := (l.drop 2).take 2) (B := ((putR l 2 2 to).drop 2).take 2) (bOk_part rfl rfl (by omega)) (bOk_part rfl k1 (by rw [putR_length]; omega)) ⟨by simp, ws⟩ (by rw [changeI_word (by omega) hto]; exact hu)))).trans ?_
  refine (if_pos (by simp [hX, hY])).trans ?_
  refine (if_pos (cdec_true.2 (sayBytes hwX hAX rfl))).trans ?_
  refine (if_pos (by simp [hX, hY])).trans ?_
  refine (if_pos (cdec_true.2 (sayBytes hwY hBY rfl))).trans ?_
  refine (if_pos (cdec_true.2 (sayRChange (A := A) (B := B) (bOk_row rfl rfl rfl) (bOk_row rfl rfl rfl) ⟨hAl, hur⟩ hc))).trans ?_
  refine (if_pos (by simp [hX, hY])).trans ?_
  refine (if_pos (AV.beq_self _)).trans ?_
  refine (if_pos (by simp [hX, hY])).trans ?_
  refine (if_pos (AV.beq_self _)).trans ?_
  refine (if_pos (by simp [hX, hY])).trans ?_
  refine (if_pos (AV.beq_self _)).trans ?_
  refine (if_pos (by simp [hc0])).trans ?_
  refine (if_pos (by first | exact True.intro | rfl | omega | (simp; done) | (simp; omega) | (simp [capOf]; done) | (simp [capOf]; omega))).trans ?_
  refine (if_pos (by first | exact True.intro | rfl | omega | (simp; done) | (simp; omega) | (simp [capOf]; done) | (simp [capOf]; omega))).trans ?_
  refine (if_pos (by first | exact True.intro | rfl | omega | (simp; done) | (simp; omega) | (simp [capOf]; done) | (simp [capOf]; omega))).trans ?_
  refine (if_pos (by first | exact True.intro | rfl | omega | (simp; done) | (simp; omega) | (simp [capOf]; done) | (simp [capOf]; omega))).trans ?_
  rfl

theorem sPort : SoundE Try.prog 23 (entF ePort) := by
  refine canonR_sound fun args h v' h' hg => ?_
  unfold ePort at hg
  split at hg
  · rename_i p b to cs ds
    simp only [Option.some.injEq, Prod.mk.injEq, Bool.and_eq_true, decide_eq_true_eq] at hg
    obtain ⟨⟨hb, hwc, hwd, hn, hto⟩, rfl, rfl⟩ := hg
    rw [← bOk_len hb] at hn
    obtain ⟨v, X, rfl, hX⟩ := adrWf_B hwc
    obtain ⟨w, Y, rfl, hY⟩ := adrWf_B hwd
    refine ⟨[.int .u8 p, slB 0 (bOf h b), .int .u16 to, .agg (.bool v :: bys X), .agg (.bool w :: bys Y)], [farB (bOf h b)], .cons _ _ _ _ _ _ _ (.flat _ _ rfl) (.cons _ _ _ _ _ _ _ (bOk_canon hb 0) (.cons _ _ _ _ _ _ _ (.flat _ _ rfl) (.cons _ _ _ _ _ _ _ (.flat _ _ adrB_free) (.cons _ _ _ _ _ _ _ (.flat _ _ adrB_free) (.nil _))))), ?_⟩
    generalize bOf h b = l at hn
    by_cases hr : segR p l = 0
    case neg =>
      rw [portL_N (.inl hr)]
      refine ⟨.sl none 0 0 true, hPortE2 p l [] [] [] [] X Y v w to 0 (segR p l) 0 0 0 0, Runs.ofT0 (tPortOk l [] [] [] [] (hd7N (segR p l)) (segR p l) 0 0) (F := 100) (n := 4) (pr := [(24, .bool true)]) ?_, [none], _, rfl, denB0, ksOk1 _⟩
      refine (nfPortE p l [] [] [] [] X Y v w to 0 (segR p l) 0 0 0 0 _).trans ?_
      refine (if_pos (cdec_true.2 (saySegR (bOk_row rfl rfl rfl) hn (segRead_N rfl hr).1))).trans ?_
      refine (if_pos (by first | exact True.intro | rfl | omega | (simp; done) | (simp; omega) | (simp [capOf]; done) | (simp [capOf]; omega))).trans ?_
      rfl
    by_cases hvw : v = w
    case neg =>
      rw [portL_N (.inr (show adrV6 (.bool v :: bys X) ≠ adrV6 (.bool w :: bys Y) from hvw))]
      refine ⟨.sl none 0 0 true, hPortF2 p l [] [] [] [] X Y v w to (word l 0) 0 (word l 2) (segF p l) 0 0, Runs.ofT0 (tPortOk l [] [] [] [] (hd7 (word l 0) (word l 2) (segF p l)) 0 0 0) (F := 100) (n := 4) (pr := [(24, .bool false), (30, .bool true)]) ?_, [none], _, rfl, denB0, ksOk1 _⟩
      refine (nfPortF p l [] [] [] [] X Y v w to (word l 0) 0 (word l 2) (segF p l) 0 0 _).trans ?_
      refine (if_pos (cdec_true.2 (saySegR (bOk_row rfl rfl rfl) hn (segRead_Y hr).1))).trans ?_
      refine (if_pos (by simp [boolV]; exact hvw)).trans ?_
      rfl
    subst hvw
    have hlen := portL_length (to := to) (cs := .bool v :: bys X) (ds := .bool v :: bys Y) ⟨hr, rfl⟩
    have fin : ∀ {L : List UInt8} {h1 : AHeap}, Runs Try.prog 23 [.int .u8 p, slB 0 l, .int .u16 to, .agg (.bool v :: bys X), .agg (.bool v :: bys Y)] [farB l] (.sl (some (4, 0)) l.length 0 false) h1 ∧ (∃ par, h1[4]? = some (.cells (bys L) 1 .own par)) → portL p l to (.bool v :: bys X) (.bool v :: bys Y) = L →
        ∃ v1 h1', Runs Try.prog 23 [.int .u8 p, slB 0 l, .int .u16 to, .agg (.bool v :: bys X), .agg (.bool v :: bys Y)] [farB l] v1 h1' ∧ ∃ ks new, h ++ [ownB (portL p l to (.bool v :: bys X) (.bool v :: bys Y))] = h ++ new ∧ Den h1' [farB l].length h.length ks v1 (slB h.length (portL p l to (.bool v :: bys X) (.bool v :: bys Y))) new ∧ KsOk ks := by
      rintro L h1 ⟨hx, par, hc⟩ hL
      rw [hL] at hlen ⊢
      exact ⟨_, h1, hx, [some 4], _, rfl, denB (by simp) hc rfl (by omega), ksOk1 _⟩
    rcases segR_len hr with ⟨rfl, hn20⟩ | ⟨rfl, hn8⟩
    · obtain ⟨h1, hx⟩ := runPortA l _ _ X Y v to _ _ _ hn hto hr hX hY rfl rfl rfl rfl rfl
      refine fin hx ?_
      unfold portL portC
      rw [if_pos ⟨hr, rfl⟩, if_neg (fun h => absurd h.1 (by decide)), if_neg (fun h => absurd h.1 (by decide))]; rfl
    · have hpc : portC 17 l to (adrBytes (.bool v :: bys X)) (adrBytes (.bool v :: bys Y)) = changeI (updI (word l 6) (word l 2) to) (adrBytes (.bool v :: bys X)) (adrBytes (.bool v :: bys Y)) := rfl
      by_cases hs : word l 6 = 0
      · obtain ⟨h1, hx⟩ := runPortC l _ _ X Y v to _ 0 0 hn hto hr hX hY rfl rfl rfl hs
        refine fin hx ?_
        unfold portL
        rw [if_pos ⟨hr, rfl⟩, if_pos ⟨rfl, hs⟩]
      · by_cases hc : changeI (updI (word l 6) (word l 2) to) (adrBytes (.bool v :: bys X)) (adrBytes (.bool v :: bys Y)) = 0
        · obtain ⟨h1, hx⟩ := runPortD l _ _ X Y v to _ _ _ hn hto hr hX hY rfl rfl rfl rfl rfl hs hc
          refine fin hx ?_
          unfold portL
          rw [if_pos ⟨hr, rfl⟩, if_neg (fun h => hs h.2), hpc, if_pos ⟨rfl, hc⟩]; rfl
        · obtain ⟨h1, hx⟩ := runPortB l _ _ X Y v to _ _ _ hn hto hr hX hY rfl rfl rfl rfl rfl hs hc
          refine fin hx ?_
          unfold portL
          rw [if_pos ⟨hr, rfl⟩, if_neg (fun h => hs h.2), hpc, if_neg (fun h => hc h.2)]; rfl
  · simp at hg

theorem sRPort : SoundE Try.prog 25 (entF eRPort) := by
  refine canonR_sound fun args h v' h' hg => ?_
  unfold eRPort at hg
  split at hg
  · rename_i p b to cs ds
    simp only [Option.some.injEq, Prod.mk.injEq, Bool.and_eq_true, decide_eq_true_eq] at hg
    obtain ⟨⟨hb, hwc, hwd, hn, hto⟩, rfl, rfl⟩ := hg
    rw [← bOk_len hb] at hn
    obtain ⟨v, X, rfl, hX⟩ := adrWf_B hwc
    obtain ⟨w, Y, rfl, hY⟩ := adrWf_B hwd
    refine ⟨[.int .u8 p, slB 0 (bOf h b), .int .i64 to, .agg (.bool v :: bys X), .agg (.bool w :: bys Y)], [farB (bOf h b)], .cons _ _ _ _ _ _ _ (.flat _ _ rfl) (.cons _ _ _ _ _ _ _ (bOk_canon hb 0) (.cons _ _ _ _ _ _ _ (.flat _ _ rfl) (.cons _ _ _ _ _ _ _ (.flat _ _ adrB_free) (.cons _ _ _ _ _ _ _ (.flat _ _ adrB_free) (.nil _))))), ?_⟩
    generalize bOf h b = l at hn
    by_cases hr : segR p l = 0
    case neg =>
      rw [portL_N (.inl hr)]
      refine ⟨.sl none 0 0 true, hRPortE2 p l [] [] [] [] X Y v w to 0 (segR p l) 0 0 0 0, Runs.ofT0 (tRPortOk l [] [] [] (rd7N (segR p l)) (segR p l) 0 0) (F := 100) (n := 4) (pr := [(24, .bool true)]) ?_, [none], _, rfl, denB0, ksOk1 _⟩
      refine (nfRPortE p l [] [] [] [] X Y v w to 0 (segR p l) 0 0 0 0 _).trans ?_
      refine (if_pos (cdec_true.2 (sayRSegR (bOk_row rfl rfl rfl) hn (segRead_N rfl hr).2))).trans ?_
      refine (if_pos (by first | exact True.intro | rfl | omega | (simp; done) | (simp; omega) | (simp [capOf]; done) | (simp [capOf]; omega))).trans ?_
      rfl
    by_cases hvw : v = w
    case neg =>
      rw [portL_N (.inr (show adrV6 (.bool v :: bys X) ≠ adrV6 (.bool w :: bys Y) from hvw))]
      refine ⟨.sl none 0 0 true, hRPortF2 p l [] [] [] [] X Y v w to (word l 0) 0 (word l 2) (segF p l) 0 0, Runs.ofT0 (tRPortOk l [] [] [] (rd7 (word l 0) (word l 2) (segF p l)) 0 0 0) (F := 100) (n := 4) (pr := [(24, .bool false), (30, .bool true)]) ?_, [none], _, rfl, denB0, ksOk1 _⟩
      refine (nfRPortF p l [] [] [] [] X Y v w to (word l 0) 0 (word l 2) (segF p l) 0 0 _).trans ?_
      refine (if_pos (cdec_true.2 (sayRSegR (bOk_row rfl rfl rfl) hn (segRead_Y hr).2))).trans ?_
      refine (if_pos (by simp [boolV]; exact hvw)).trans ?_
      rfl
    subst hvw
    have hlen := portL_length (to := to) (cs := .bool v :: bys X) (ds := .bool v :: bys Y) ⟨hr, rfl⟩
    have fin : ∀ {L : List UInt8} {h1 : AHeap}, Runs Try.prog 25 [.int .u8 p, slB 0 l, .int .i64 to, .agg (.bool v :: bys X), .agg (.bool v :: bys Y)] [farB l] (.sl (some (5, 0)) (0 + l.length) 0 false) h1 ∧ (∃ par, h1[5]? = some (.cells (bys L) 1 .own par)) → portL p l to (.bool v :: bys X) (.bool v :: bys Y) = L →
        ∃ v1 h1', Runs Try.prog 25 [.int .u8 p, slB 0 l, .int .i64 to, .agg (.bool v :: bys X), .agg (.bool v :: bys Y)] [farB l] v1 h1' ∧ ∃ ks new, h ++ [ownB (portL p l to (.bool v :: bys X) (.bool v :: bys Y))] = h ++ new ∧ Den h1' [farB l].length h.length ks v1 (slB h.length (portL p l to (.bool v :: bys X) (.bool v :: bys Y))) new ∧ KsOk ks := by
      rintro L h1 ⟨hx, par, hc⟩ hL
      rw [hL] at hlen ⊢
      exact ⟨_, h1, hx, [some 5], _, rfl, denB (by simp) hc rfl (by omega), ksOk1 _⟩
    rcases segR_len hr with ⟨rfl, hn20⟩ | ⟨rfl, hn8⟩
    · obtain ⟨h1, hx⟩ := runRPortA l _ _ X Y v to _ _ _ hn hto hr hX hY rfl rfl rfl rfl rfl
      refine fin hx ?_
      unfold portL portC
      rw [if_pos ⟨hr, rfl⟩, if_neg (fun h => absurd h.1 (by decide)), if_neg (fun h => absurd h.1 (by decide))]; rfl
    · have hpc : portC 17 l to (adrBytes (.bool v :: bys X)) (adrBytes (.bool v :: bys Y)) = changeI (updI (word l 6) (word l 2) to) (adrBytes (.bool v :: bys X)) (adrBytes (.bool v :: bys Y)) := rfl
      by_cases hs : word l 6 = 0
      · obtain ⟨h1, hx⟩ := runRPortC l _ _ X Y v to _ 0 0 hn hto hr hX hY rfl rfl rfl hs
        refine fin hx ?_
        unfold portL
        rw [if_pos ⟨hr, rfl⟩, if_pos ⟨rfl, hs⟩]
      · by_cases hc : changeI (updI (word l 6) (word l 2) to) (adrBytes (.bool v :: bys X)) (adrBytes (.bool v :: bys Y)) = 0
        · obtain ⟨h1, hx⟩ := runRPortD l _ _ X Y v to _ _ _ hn hto hr hX hY rfl rfl rfl rfl rfl hs hc
          refine fin hx ?_
          unfold portL
          rw [if_pos ⟨hr, rfl⟩, if_neg (fun h => hs h.2), hpc, if_pos ⟨rfl, hc⟩]; rfl
        · obtain ⟨h1, hx⟩ := runRPortB l _ _ X Y v to _ _ _ hn hto hr hX hY rfl rfl rfl rfl rfl hs hc
          refine fin hx ?_
          unfold portL
          rw [if_pos ⟨hr, rfl⟩, if_neg (fun h => hs h.2), hpc, if_neg (fun h => hc h.2)]; rfl
  · simp at hg

end Go.Proofs.Ytnchnjkakddhlaa.L
