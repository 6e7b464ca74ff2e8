/- SegTells' run. -/
import Derived.Test.YtmlenlfhciapfaaGood
import Derived.Test.YtmlenlfhciapfaaRValid
import Derived.Test.YtmlenlfhciapfaaAwake7
set_option autoImplicit false
set_option maxRecDepth 100000
set_option linter.unusedVariables false
set_option linter.unusedSimpArgs false
namespace Go.Proofs.Ytmlenlfhciapfaa.L
open Go Go.Abs

noncomputable def tST (L : List UInt8) (v1 v2 : AV) (g : Bool) : Tbl := [(10, entF (eSay eSegR [(3, v1, [])])), (11, entF (eSay eRSegR [(4, v2, [])])), (13, entF (eSay ePort [(7, slB 7 L, [ownB L])])), (14, entF (eSay eRPort [(8, slB 8 L, [ownB L])])),
  (15, entF (eSay eGoodS [(9, .bool g, [])])), (16, entF (eSay eGoodS [(9, .bool g, [])])), (8, entF eValid), (9, entF eAwake)]
theorem tSTOk (L : List UInt8) (v1 v2 : AV) (g : Bool) : ∀ f E, (tST L v1 v2 g).find f = some E → SoundE Try.prog f E := find_cons (sSay sSegR _) (find_cons (sSay sRSegR _) (find_cons (sSay sPort _) (find_cons (sSay sRPort _) (find_cons (sSay sGoodS _) (find_cons (sSay sRGoodS _) (find_cons sRValid (find_cons sAwake (find_nil _))))))))
def hdS (s d f r : Int) : AV := .tup [.agg [.int .u16 s, .int .u16 d, .int .u8 f], .int .i64 r]
def rdS (s d f r : Int) : AV := .tup [.agg [.int .i64 s, .int .i64 d, .int .u8 f], .int .i64 r]
theorem nfSegTellsA {R : Type} (l L X Y : List UInt8) (v w g : Bool) (p to s d f r : Int) (K : AV → Option R) :
    qrun Try.prog (tST L (hdS s d f r) (rdS s d f r) g) 100 4 [(17, .bool true)] [] 3 [.int .u8 p, slB 0 l, .int .u16 to, .agg (.bool v :: bys X), .agg (.bool w :: bys Y)] [farB l] (fun v _ => K v) =
    (if decide ((l.length : Int) > 2000) = true then
      K (AV.bool true)
    else none) := by
  kernel_rfl

theorem nfSegTellsB {R : Type} (l L X Y : List UInt8) (v w g : Bool) (p to s d f r : Int) (K : AV → Option R) :
    qrun Try.prog (tST L (hdS s d f r) (rdS s d f r) g) 100 4 [(17, .bool false), (20, .bool false)] [] 3 [.int .u8 p, slB 0 l, .int .u16 to, .agg (.bool v :: bys X), .agg (.bool w :: bys Y)] [farB l] (fun v _ => K v) =
    (if decide ((l.length : Int) > 2000) = false then
      (if 17 ≤ (AV.bool v :: bys X).length then
        (if adrWf (List.take 17 (AV.bool v :: bys X)) = true then
          (if adrValid (List.take 17 (AV.bool v :: bys X)) = false then
            K (AV.bool true)
          else none)
        else none)
      else none)
    else none) := by
  kernel_rfl

theorem nfSegTellsC {R : Type} (l L X Y : List UInt8) (v w g : Bool) (p to s d f r : Int) (K : AV → Option R) :
    qrun Try.prog (tST L (hdS s d f r) (rdS s d f r) g) 100 4 [(17, .bool false), (20, .bool true), (25, .bool false)] [] 3 [.int .u8 p, slB 0 l, .int .u16 to, .agg (.bool v :: bys X), .agg (.bool w :: bys Y)] [farB l] (fun v _ => K v) =
    (if decide ((l.length : Int) > 2000) = false then
      (if 17 ≤ (AV.bool v :: bys X).length then
        (if adrWf (List.take 17 (AV.bool v :: bys X)) = true then
          (if adrValid (List.take 17 (AV.bool v :: bys X)) = true then
            (if 17 ≤ (AV.bool w :: bys Y).length then
              (if adrWf (List.take 17 (AV.bool w :: bys Y)) = true then
                (if adrValid (List.take 17 (AV.bool w :: bys Y)) = false then
                  K (AV.bool true)
                else none)
              else none)
            else none)
          else none)
        else none)
      else none)
    else none) := by
  kernel_rfl

noncomputable def hSegTellsD0 (l L X Y : List UInt8) (v w g : Bool) (p to s d f r : Int) : AHeap := [ABlk.cells (bys l) 1 Md.far none, ABlk.cells (AV.bool v :: bys X) 17 Md.own none, ABlk.cells (AV.bool w :: bys Y) 17 Md.own none]
noncomputable def hSegTellsD1 (l L X Y : List UInt8) (v w g : Bool) (p to s d f r : Int) : AHeap := []
noncomputable def hSegTellsD2 (l L X Y : List UInt8) (v w g : Bool) (p to s d f r : Int) : AHeap := [ABlk.cells (bys l) 1 Md.far none, ABlk.cells (AV.bool v :: bys X) 17 Md.own none, ABlk.cells (AV.bool w :: bys Y) 17 Md.own none, ABlk.cells [AV.int IntKind.u16 s, AV.int IntKind.u16 d, AV.int IntKind.u8 f] 3 Md.own none]
noncomputable def hSegTellsD3 (l L X Y : List UInt8) (v w g : Bool) (p to s d f r : Int) : AHeap := [ABlk.cells (bys l) 1 Md.far none, ABlk.cells (AV.bool v :: bys X) 17 Md.own none, ABlk.cells (AV.bool w :: bys Y) 17 Md.own none, ABlk.cells [AV.int IntKind.u16 s, AV.int IntKind.u16 d, AV.int IntKind.u8 f] 3 Md.own none, ABlk.cells [AV.int IntKind.i64 s, AV.int IntKind.i64 d, AV.int IntKind.u8 f] 3 Md.own none, ABlk.cells [AV.int IntKind.u16 s, AV.int IntKind.u16 d, AV.int IntKind.u8 f] 3 Md.own none, ABlk.cells [AV.int IntKind.i64 s, AV.int IntKind.i64 d, AV.int IntKind.u8 f] 3 Md.own none]
noncomputable def hSegTellsD4 (l L X Y : List UInt8) (v w g : Bool) (p to s d f r : Int) : AHeap := [ABlk.cells (bys L) 1 Md.own none]
noncomputable def hSegTellsD5 (l L X Y : List UInt8) (v w g : Bool) (p to s d f r : Int) : AHeap := [ABlk.cells (bys l) 1 Md.far none, ABlk.cells (AV.bool v :: bys X) 17 Md.own none, ABlk.cells (AV.bool w :: bys Y) 17 Md.own none, ABlk.cells [AV.int IntKind.u16 s, AV.int IntKind.u16 d, AV.int IntKind.u8 f] 3 Md.own none, ABlk.cells [AV.int IntKind.i64 s, AV.int IntKind.i64 d, AV.int IntKind.u8 f] 3 Md.own none, ABlk.cells [AV.int IntKind.u16 s, AV.int IntKind.u16 d, AV.int IntKind.u8 f] 3 Md.own none, ABlk.cells [AV.int IntKind.i64 s, AV.int IntKind.i64 d, AV.int IntKind.u8 f] 3 Md.own none, ABlk.cells (bys L) 1 Md.own none]
noncomputable def hSegTellsD6 (l L X Y : List UInt8) (v w g : Bool) (p to s d f r : Int) : AHeap := [ABlk.cells (bys l) 1 Md.far none, ABlk.cells (AV.bool v :: bys X) 17 Md.own none, ABlk.cells (AV.bool w :: bys Y) 17 Md.own none, ABlk.cells [AV.int IntKind.u16 s, AV.int IntKind.u16 d, AV.int IntKind.u8 f] 3 Md.own none, ABlk.cells [AV.int IntKind.i64 s, AV.int IntKind.i64 d, AV.int IntKind.u8 f] 3 Md.own none, ABlk.cells [AV.int IntKind.u16 s, AV.int IntKind.u16 d, AV.int IntKind.u8 f] 3 Md.own none, ABlk.cells [AV.int IntKind.i64 s, AV.int IntKind.i64 d, AV.int IntKind.u8 f] 3 Md.own none, ABlk.cells (bys L) 1 Md.own none, ABlk.cells (bys L) 1 Md.own none]
theorem nfSegTellsD {R : Type} (l L X Y : List UInt8) (v w g : Bool) (p to s d f r : Int) (K : AV → Option R) :
    qrun Try.prog (tST L (hdS s d f r) (rdS s d f r) g) 100 4 [(17, .bool false), (20, .bool true), (25, .bool true), (43, .bool true), (47, .bool true), (65, .bool true), (78, .bool true)] [] 3 [.int .u8 p, slB 0 l, .int .u16 to, .agg (.bool v :: bys X), .agg (.bool w :: bys Y)] [farB l] (fun v _ => K v) =
    (if decide ((l.length : Int) > 2000) = false then
      (if 17 ≤ (AV.bool v :: bys X).length then
        (if adrWf (List.take 17 (AV.bool v :: bys X)) = true then
          (if adrValid (List.take 17 (AV.bool v :: bys X)) = true then
            (if 17 ≤ (AV.bool w :: bys Y).length then
              (if adrWf (List.take 17 (AV.bool w :: bys Y)) = true then
                (if adrValid (List.take 17 (AV.bool w :: bys Y)) = true then
                  (if cdec (Says eSegR [AV.int IntKind.u8 p, AV.sl (some (0, 0)) l.length 0 false] (hSegTellsD0 l L X Y v w g p to s d f r) (AV.tup [AV.agg [AV.int IntKind.u16 s, AV.int IntKind.u16 d, AV.int IntKind.u8 f], AV.int IntKind.i64 r]) (hSegTellsD1 l L X Y v w g p to s d f r)) = true then
                    (if cdec (Says eRSegR [AV.int IntKind.u8 p, AV.sl (some (0, 0)) l.length 0 false] (hSegTellsD2 l L X Y v w g p to s d f r) (AV.tup [AV.agg [AV.int IntKind.i64 s, AV.int IntKind.i64 d, AV.int IntKind.u8 f], AV.int IntKind.i64 r]) (hSegTellsD1 l L X Y v w g p to s d f r)) = true then
                      (if (IntKind.i64.wrap (intV (some (AV.int IntKind.u16 s))) == intV (some (AV.int IntKind.i64 s))) = true then
                        (if (IntKind.i64.wrap (intV (some (AV.int IntKind.u16 d))) == intV (some (AV.int IntKind.i64 d))) = true then
                          (if (intV (some (AV.int IntKind.u8 f)) == intV (some (AV.int IntKind.u8 f))) = true then
                            (if (r == r) = true then
                              (if 17 ≤ (AV.bool v :: bys X).length then
                                (if 17 ≤ (AV.bool w :: bys Y).length then
                                  (if cdec (Says ePort [AV.int IntKind.u8 p, AV.sl (some (0, 0)) l.length 0 false, AV.int IntKind.u16 to, AV.agg (List.take 17 (AV.bool v :: bys X)), AV.agg (List.take 17 (AV.bool w :: bys Y))] (hSegTellsD3 l L X Y v w g p to s d f r) (AV.sl (some (7, 0)) L.length 0 false) (hSegTellsD4 l L X Y v w g p to s d f r)) = true then
                                    (if 0 + L.length ≤ (bys L).length then
                                      (if (List.take L.length (bys L)).all isByte = true then
                                        (if 17 ≤ (AV.bool v :: bys X).length then
                                          (if 17 ≤ (AV.bool w :: bys Y).length then
                                            (if cdec (Says eRPort [AV.int IntKind.u8 p, AV.sl (some (0, 0)) l.length 0 false, AV.int IntKind.i64 (IntKind.i64.wrap to), AV.agg (List.take 17 (AV.bool v :: bys X)), AV.agg (List.take 17 (AV.bool w :: bys Y))] (hSegTellsD5 l L X Y v w g p to s d f r) (AV.sl (some (8, 0)) L.length 0 false) (hSegTellsD4 l L X Y v w g p to s d f r)) = true then
                                              (if 0 + L.length ≤ (bys L).length then
                                                (if (List.take L.length (bys L)).all isByte = true then
                                                  (if decide (List.map byteD (List.take L.length (bys L)) = List.map byteD (List.take L.length (bys L))) = true then
                                                    (if 17 ≤ (AV.bool v :: bys X).length then
                                                      (if 17 ≤ (AV.bool w :: bys Y).length then
                                                        (if cdec (Says eGoodS [AV.int IntKind.u8 p, AV.sl (some (0, 0)) l.length 0 false, AV.agg (List.take 17 (AV.bool v :: bys X)), AV.agg (List.take 17 (AV.bool w :: bys Y))] (hSegTellsD6 l L X Y v w g p to s d f r) (AV.bool g) (hSegTellsD1 l L X Y v w g p to s d f r)) = true then
                                                          (if 17 ≤ (AV.bool v :: bys X).length then
                                                            (if 17 ≤ (AV.bool w :: bys Y).length then
                                                              (if cdec (Says eGoodS [AV.int IntKind.u8 p, AV.sl (some (0, 0)) l.length 0 false, AV.agg (List.take 17 (AV.bool v :: bys X)), AV.agg (List.take 17 (AV.bool w :: bys Y))] (hSegTellsD6 l L X Y v w g p to s d f r) (AV.bool g) (hSegTellsD1 l L X Y v w g p to s d f r)) = true then
                                                                (if (g == g) = true then
                                                                  (if 0 + L.length ≤ (bys L).length then
                                                                    (if (List.take L.length (bys L)).all isByte = true then
                                                                      (if (AV.str (List.map byteD (List.take L.length (bys L)))).beq (AV.str (List.map byteD (List.take L.length (bys L)))) = true then
                                                                        (if 17 ≤ (AV.bool v :: bys X).length then
                                                                          (if (AV.agg (List.take 17 (AV.bool v :: bys X))).beq (AV.agg (List.take 17 (AV.bool v :: bys X))) = true then
                                                                            (if 17 ≤ (AV.bool w :: bys Y).length then
                                                                              (if (AV.agg (List.take 17 (AV.bool w :: bys Y))).beq (AV.agg (List.take 17 (AV.bool w :: bys Y))) = true then
                                                                                (if 17 ≤ (AV.bool v :: bys X).length then
                                                                                  (if (AV.agg (List.take 17 (AV.bool v :: bys X))).beq (AV.agg (List.take 17 (AV.bool v :: bys X))) = true then
                                                                                    (if 17 ≤ (AV.bool w :: bys Y).length then
                                                                                      (if (AV.agg (List.take 17 (AV.bool w :: bys Y))).beq (AV.agg (List.take 17 (AV.bool w :: bys Y))) = true then
                                                                                        K (AV.bool true)
                                                                                      else none)
                                                                                    else none)
                                                                                  else none)
                                                                                else none)
                                                                              else none)
                                                                            else none)
                                                                          else none)
                                                                        else none)
                                                                      else none)
                                                                    else none)
                                                                  else none)
                                                                else none)
                                                              else none)
                                                            else none)
                                                          else none)
                                                        else none)
                                                      else none)
                                                    else none)
                                                  else none)
                                                else none)
                                              else none)
                                            else none)
                                          else none)
                                        else none)
                                      else none)
                                    else none)
                                  else none)
                                else none)
                              else none)
                            else none)
                          else none)
                        else none)
                      else none)
                    else none)
                  else none)
                else none)
              else none)
            else none)
          else none)
        else none)
      else none)
    else none) := by
  kernel_rfl


theorem segZ_range {p x : Int} {l : List UInt8} (h : 0 ≤ x ∧ x < 65536) : 0 ≤ segZ p l x ∧ segZ p l x < 65536 := by unfold segZ; split <;> omega
theorem runSegTells (p : Int) (l : List UInt8) (to : Int) (xs ys : List AV) (hp : 0 ≤ p ∧ p < 256) (hl : l.length ≤ maxLen) (hto : 0 ≤ to ∧ to < 65536) (wx : FitsK (.bool :: List.replicate 16 (.int .u8)) xs) (wy : FitsK (.bool :: List.replicate 16 (.int .u8)) ys) :
    ∃ h', Runs Try.prog 3 [.int .u8 p, slB 0 l, .int .u16 to, .agg xs, .agg ys] [farB l] (.bool true) h' := by
  obtain ⟨v, X, rfl, hX⟩ := addr_fits wx
  obtain ⟨w, Y, rfl, hY⟩ := addr_fits wy
  have hwX : adrWf (List.take 17 (AV.bool v :: bys X)) = true := by rw [adrB_17 hX]; exact adrB_wf hX
  have hwY : adrWf (List.take 17 (AV.bool w :: bys Y)) = true := by rw [adrB_17 hY]; exact adrB_wf hY
  have z0 := segZ_range (p := p) (l := l) (word_range l 0)
  have z2 := segZ_range (p := p) (l := l) (word_range l 2)
  by_cases h1 : l.length ≤ 2000
  case neg =>
    refine Runs.valT0 (tSTOk (portL p l to (.bool v :: bys X) (.bool w :: bys Y)) (segRead p l) (segRRead p l) (goodS p l (.bool v :: bys X) (.bool w :: bys Y))) (F := 100) (n := 4) (pr := [(17, .bool true)]) ?_
    refine (nfSegTellsA l (portL p l to (.bool v :: bys X) (.bool w :: bys Y)) X Y v w (goodS p l (.bool v :: bys X) (.bool w :: bys Y)) p to (segZ p l (word l 0)) (segZ p l (word l 2)) (segF p l) (segR p l) _).trans ?_
    refine (if_pos (by first | exact True.intro | rfl | omega | (simp; done) | (simp; omega) | (simp [capOf]; done) | (simp [capOf]; omega))).trans ?_
    rfl
  have hn : l.length ≤ 1000000000000 := by omega
  by_cases h2 : adrValid (.bool v :: bys X) = true
  case neg =>
    refine Runs.valT0 (tSTOk (portL p l to (.bool v :: bys X) (.bool w :: bys Y)) (segRead p l) (segRRead p l) (goodS p l (.bool v :: bys X) (.bool w :: bys Y))) (F := 100) (n := 4) (pr := [(17, .bool false), (20, .bool false)]) ?_
    refine (nfSegTellsB l (portL p l to (.bool v :: bys X) (.bool w :: bys Y)) X Y v w (goodS p l (.bool v :: bys X) (.bool w :: bys Y)) p to (segZ p l (word l 0)) (segZ p l (word l 2)) (segF p l) (segR p l) _).trans ?_
    refine (if_pos (by first | exact True.intro | rfl | omega | (simp; done) | (simp; omega) | (simp [capOf]; done) | (simp [capOf]; omega))).trans ?_
    refine (if_pos (by simp [hX, hY])).trans ?_
    refine (if_pos (by simp [adrB_17 hX, adrB_17 hY, adrB_wf hX, adrB_wf hY, h2])).trans ?_
    refine (if_pos (by simp [adrB_17 hX, adrB_17 hY, adrB_wf hX, adrB_wf hY, h2])).trans ?_
    rfl
  by_cases h3 : adrValid (.bool w :: bys Y) = true
  case neg =>
    refine Runs.valT0 (tSTOk (portL p l to (.bool v :: bys X) (.bool w :: bys Y)) (segRead p l) (segRRead p l) (goodS p l (.bool v :: bys X) (.bool w :: bys Y))) (F := 100) (n := 4) (pr := [(17, .bool false), (20, .bool true), (25, .bool false)]) ?_
    refine (nfSegTellsC l (portL p l to (.bool v :: bys X) (.bool w :: bys Y)) X Y v w (goodS p l (.bool v :: bys X) (.bool w :: bys Y)) p to (segZ p l (word l 0)) (segZ p l (word l 2)) (segF p l) (segR p l) _).trans ?_
    refine (if_pos (by first | exact True.intro | rfl | omega | (simp; done) | (simp; omega) | (simp [capOf]; done) | (simp [capOf]; omega))).trans ?_
    refine (if_pos (by simp [hX, hY])).trans ?_
    refine (if_pos (by simp [adrB_17 hX, adrB_17 hY, adrB_wf hX, adrB_wf hY, h2, h3])).trans ?_
    refine (if_pos (by simp [adrB_17 hX, adrB_17 hY, adrB_wf hX, adrB_wf hY, h2, h3])).trans ?_
    refine (if_pos (by simp [hX, hY])).trans ?_
    refine (if_pos (by simp [adrB_17 hX, adrB_17 hY, adrB_wf hX, adrB_wf hY, h2, h3])).trans ?_
    refine (if_pos (by simp [adrB_17 hX, adrB_17 hY, adrB_wf hX, adrB_wf hY, h2, h3])).trans ?_
    rfl
  refine Runs.valT0 (tSTOk (portL p l to (.bool v :: bys X) (.bool w :: bys Y)) (segRead p l) (segRRead p l) (goodS p l (.bool v :: bys X) (.bool w :: bys Y))) (F := 100) (n := 4) (pr := [(17, .bool false), (20, .bool true), (25, .bool true), (43, .bool true), (47, .bool true), (65, .bool true), (78, .bool true)]) ?_
  refine (nfSegTellsD l (portL p l to (.bool v :: bys X) (.bool w :: bys Y)) X Y v w (goodS p l (.bool v :: bys X) (.bool w :: bys Y)) p to (segZ p l (word l 0)) (segZ p l (word l 2)) (segF p l) (segR p l) _).trans ?_
  refine (if_pos (by first | exact True.intro | rfl | omega | (simp; done) | (simp; omega) | (simp [capOf]; done) | (simp [capOf]; omega))).trans ?_
  refine (if_pos (by simp [hX, hY])).trans ?_
  refine (if_pos (by simp [adrB_17 hX, adrB_17 hY, adrB_wf hX, adrB_wf hY, h2, h3])).trans ?_
  refine (if_pos (by simp [adrB_17 hX, adrB_17 hY, adrB_wf hX, adrB_wf hY, h2, h3])).trans ?_
  refine (if_pos (by simp [hX, hY])).trans ?_
  refine (if_pos (by simp [adrB_17 hX, adrB_17 hY, adrB_wf hX, adrB_wf hY, h2, h3])).trans ?_
  refine (if_pos (by simp [adrB_17 hX, adrB_17 hY, adrB_wf hX, adrB_wf hY, h2, h3])).trans ?_
  refine (if_pos (cdec_true.2 (saySegR (bOk_row rfl rfl rfl) hn rfl))).trans ?_
  refine (if_pos (cdec_true.2 (sayRSegR (bOk_row rfl rfl rfl) hn rfl))).trans ?_
  refine (if_pos (by simp only [intV]; rw [wrapI64 (by omega)]; exact beq_self_eq_true _)).trans ?_
  refine (if_pos (by simp only [intV]; rw [wrapI64 (by omega)]; exact beq_self_eq_true _)).trans ?_
  refine (if_pos (by first | exact True.intro | rfl | omega | (simp; done) | (simp; omega) | (simp [capOf]; done) | (simp [capOf]; omega))).trans ?_
  refine (if_pos (by first | exact True.intro | rfl | omega | (simp; done) | (simp; omega) | (simp [capOf]; done) | (simp [capOf]; omega))).trans ?_
  refine (if_pos (by simp [hX, hY])).trans ?_
  refine (if_pos (by simp [hX, hY])).trans ?_
  refine (if_pos (cdec_true.2 (sayPort (bOk_row rfl rfl rfl) hwX hwY hn hto (by rw [adrB_17 hX, adrB_17 hY]) rfl))).trans ?_
  refine (if_pos (by first | exact True.intro | rfl | omega | (simp; done) | (simp; omega) | (simp [capOf]; done) | (simp [capOf]; omega))).trans ?_
  refine (if_pos (by simp)).trans ?_
  refine (if_pos (by simp [hX, hY])).trans ?_
  refine (if_pos (by simp [hX, hY])).trans ?_
  refine (if_pos (cdec_true.2 (sayRPort (bOk_row rfl rfl rfl) hwX hwY hn (by rw [wrapI64 (by omega)]; exact hto) (by rw [adrB_17 hX, adrB_17 hY, wrapI64 (by omega)]) rfl))).trans ?_
  refine (if_pos (by first | exact True.intro | rfl | omega | (simp; done) | (simp; omega) | (simp [capOf]; done) | (simp [capOf]; omega))).trans ?_
  refine (if_pos (by simp)).trans ?_
  refine (if_pos (decide_eq_true rfl)).trans ?_
  refine (if_pos (by simp [hX, hY])).trans ?_
  refine (if_pos (by simp [hX, hY])).trans ?_
  refine (if_pos (cdec_true.2 (sayGoodS (bOk_row rfl rfl rfl) hwX hwY hn hp (by rw [adrB_17 hX, adrB_17 hY])))).trans ?_
  refine (if_pos (by simp [hX, hY])).trans ?_
  refine (if_pos (by simp [hX, hY])).trans ?_
  refine (if_pos (cdec_true.2 (sayGoodS (bOk_row rfl rfl rfl) hwX hwY hn hp (by rw [adrB_17 hX, adrB_17 hY])))).trans ?_
  refine (if_pos (by first | exact True.intro | rfl | omega | (simp; done) | (simp; omega) | (simp [capOf]; done) | (simp [capOf]; omega))).trans ?_
  refine (if_pos (by first | exact True.intro | rfl | omega | (simp; done) | (simp; omega) | (simp [capOf]; done) | (simp [capOf]; omega))).trans ?_
  refine (if_pos (by simp)).trans ?_
  refine (if_pos (decide_eq_true rfl)).trans ?_
  refine (if_pos (by simp [hX, hY])).trans ?_
  refine (if_pos (AV.beq_self _)).trans ?_
  refine (if_pos (by simp [hX, hY])).trans ?_
  refine (if_pos (AV.beq_self _)).trans ?_
  refine (if_pos (by simp [hX, hY])).trans ?_
  refine (if_pos (AV.beq_self _)).trans ?_
  refine (if_pos (by simp [hX, hY])).trans ?_
  refine (if_pos (AV.beq_self _)).trans ?_
  rfl

end Go.Proofs.Ytmlenlfhciapfaa.L
