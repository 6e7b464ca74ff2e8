/- rewrite.Differs: its contract. -/
import Derived.Test.YtnchnjkakddhlaaDifN
import Derived.Test.YtnchnjkakddhlaaGcKit
set_option autoImplicit false
set_option maxRecDepth 100000
set_option linter.unusedVariables false
set_option linter.unusedSimpArgs false
namespace Go.Proofs.Ytnchnjkakddhlaa.L
open Go Go.Abs

def zoN (a b : List UInt8) (i : Nat) : Bool := decide (a.length ≤ i) || decide (b.length ≤ i) || decide (byt a i ≠ byt b i)
def zee (a b : List UInt8) (n : Nat) : List Int := ((List.range n).filter (zoN a b)).map fun i : Nat => (i : Int)
theorem zlO {a b : List UInt8} {n : Nat} (h : zoN a b n = true) : zee a b (n + 1) = zee a b n ++ [(n : Int)] := by simp [zee, List.range_succ, List.filter_append, h]
theorem zx6 {a b : List UInt8} {n : Nat} (h : zoN a b n = false) : zee a b (n + 1) = zee a b n := by simp [zee, List.range_succ, List.filter_append, h]
theorem zg4 (a b : List UInt8) (n : Nat) : (zee a b n).length ≤ n := by
 unfold zee; rw [List.length_map]; exact Nat.le_trans (List.length_filter_le _ _) (by simp)
def zem (a b : List UInt8) (N : Nat) (i : Nat) : List AV × zaa := (zqE a b (zee a b i).length N i, zqd a b (zee a b i))

theorem zvq {a b : List UInt8} {N i : Nat} (hN : N ≤ 10000000) (hi : i < N) (h : a.length ≤ i) :
 ∃ vs1 h1, zcX Try.prog [] 100 4 [(12, .bool true), (17, .bool true)] noT DL znb (zem a b N i).1 (zem a b N i).2 = some (.norm, vs1, h1) ∧ Gc 2 vs1 h1 (zem a b N (i + 1)).1 (zem a b N (i + 1)).2 := by
 have hd : zoN a b i = true := by simp [zoN, h]
 have hl := zg4 a b i
 have e0 : 0 + (i : Int).toNat * 1 = i := by omega
 have e5 : IntKind.i64.wrap ((i : Int) + 1) = ((i + 1 : Nat) : Int) := by rw [zao (by omega)]; omega
 show ∃ vs1 h1, zcX Try.prog [] 100 4 _ noT DL znb (zqE a b (zee a b i).length N i) (zqd a b (zee a b i)) = some (.norm, vs1, h1) ∧ _
 rw [zzv]
 refine ⟨?_, ?_, ?_, ?_⟩
 rotate_left 2
 · simp only [e0, e5, zbk, zay, zaM]
   repeat (first | (refine (if_pos ?_).trans ?_; · first | (refine ⟨?_, ?_, ?_⟩ <;> first | rfl | omega) | (refine ⟨rfl, ?_, ?_, rfl, rfl⟩ <;> first | (simp; done) | omega) | omega | (simp; done) | (simp; omega)))
   rfl
 · unfold zem zwK
   rw [zlO hd]
   have et : List.take ((zee a b i).length * 1) (List.map (AV.int IntKind.i64) (zee a b i)) ++ [AV.int IntKind.i64 i] = (zee a b i ++ [(i : Int)]).map (AV.int .i64) := by
    rw [Nat.mul_one, List.take_of_length_le (by simp)]; simp
   rw [et, show (zee a b i).length + 1 = (zee a b i ++ [(i : Int)]).length by simp]
   exact Gc.by [0, 1, 4] rfl (by decide) (.cons _ _ _ _ (.sl _ _ _ _ _ _ rfl) (.cons _ _ _ _ (.sl _ _ _ _ _ _ rfl) (.cons _ _ _ _ (.sl _ _ _ _ _ _ rfl) (.free _ rfl)))) (.cons _ _ _ _ _ rfl (.row (by simp) (by simp)) (.cons _ _ _ _ _ rfl (.row (by simp) (by simp)) (.cons _ _ _ _ _ rfl (BR.grown (zeu _) rfl) .nil)))

theorem zvS {a b : List UInt8} {N i : Nat} (hN : N ≤ 10000000) (hi : i < N) (h0 : i < a.length) (h : b.length ≤ i) :
 ∃ vs1 h1, zcX Try.prog [] 100 4 [(12, .bool true), (17, .bool false), (22, .bool true)] noT DL znb (zem a b N i).1 (zem a b N i).2 = some (.norm, vs1, h1) ∧ Gc 2 vs1 h1 (zem a b N (i + 1)).1 (zem a b N (i + 1)).2 := by
 have hd : zoN a b i = true := by simp [zoN, h]
 have hl := zg4 a b i
 have e0 : 0 + (i : Int).toNat * 1 = i := by omega
 have e5 : IntKind.i64.wrap ((i : Int) + 1) = ((i + 1 : Nat) : Int) := by rw [zao (by omega)]; omega
 show ∃ vs1 h1, zcX Try.prog [] 100 4 _ noT DL znb (zqE a b (zee a b i).length N i) (zqd a b (zee a b i)) = some (.norm, vs1, h1) ∧ _
 rw [zy8]
 refine ⟨?_, ?_, ?_, ?_⟩
 rotate_left 2
 · simp only [e0, e5, zbk, zay, zaM]
   repeat (first | (refine (if_pos ?_).trans ?_; · first | (refine ⟨?_, ?_, ?_⟩ <;> first | rfl | omega) | (refine ⟨rfl, ?_, ?_, rfl, rfl⟩ <;> first | (simp; done) | omega) | omega | (simp; done) | (simp; omega)))
   rfl
 · unfold zem zwy
   rw [zlO hd]
   have et : List.take ((zee a b i).length * 1) (List.map (AV.int IntKind.i64) (zee a b i)) ++ [AV.int IntKind.i64 i] = (zee a b i ++ [(i : Int)]).map (AV.int .i64) := by
    rw [Nat.mul_one, List.take_of_length_le (by simp)]; simp
   rw [et, show (zee a b i).length + 1 = (zee a b i ++ [(i : Int)]).length by simp]
   exact Gc.by [0, 1, 4] rfl (by decide) (.cons _ _ _ _ (.sl _ _ _ _ _ _ rfl) (.cons _ _ _ _ (.sl _ _ _ _ _ _ rfl) (.cons _ _ _ _ (.sl _ _ _ _ _ _ rfl) (.free _ rfl)))) (.cons _ _ _ _ _ rfl (.row (by simp) (by simp)) (.cons _ _ _ _ _ rfl (.row (by simp) (by simp)) (.cons _ _ _ _ _ rfl (BR.grown (zeu _) rfl) .nil)))

theorem zuW {a b : List UInt8} {N i : Nat} (hN : N ≤ 10000000) (hi : i < N) (h0 : i < a.length) (h1 : i < b.length) (h : byt a i ≠ byt b i) :
 ∃ vs1 h1, zcX Try.prog [] 100 4 [(12, .bool true), (17, .bool false), (22, .bool false), (33, .bool true)] noT DL znb (zem a b N i).1 (zem a b N i).2 = some (.norm, vs1, h1) ∧ Gc 2 vs1 h1 (zem a b N (i + 1)).1 (zem a b N (i + 1)).2 := by
 have hd : zoN a b i = true := by simp [zoN, h]
 have hl := zg4 a b i
 have e0 : 0 + (i : Int).toNat * 1 = i := by omega
 have e5 : IntKind.i64.wrap ((i : Int) + 1) = ((i + 1 : Nat) : Int) := by rw [zao (by omega)]; omega
 show ∃ vs1 h1, zcX Try.prog [] 100 4 _ noT DL znb (zqE a b (zee a b i).length N i) (zqd a b (zee a b i)) = some (.norm, vs1, h1) ∧ _
 rw [zz9]
 refine ⟨?_, ?_, ?_, ?_⟩
 rotate_left 2
 · simp only [e0, e5, zbk, zay, zaM]
   repeat (first | (refine (if_pos ?_).trans ?_; · first | (refine ⟨?_, ?_, ?_⟩ <;> first | rfl | omega) | (refine ⟨rfl, ?_, ?_, rfl, rfl⟩ <;> first | (simp; done) | omega) | omega | (simp; done) | (simp; omega)))
   rfl
 · unfold zem zv7
   rw [zlO hd]
   have et : List.take ((zee a b i).length * 1) (List.map (AV.int IntKind.i64) (zee a b i)) ++ [AV.int IntKind.i64 i] = (zee a b i ++ [(i : Int)]).map (AV.int .i64) := by
    rw [Nat.mul_one, List.take_of_length_le (by simp)]; simp
   rw [et, show (zee a b i).length + 1 = (zee a b i ++ [(i : Int)]).length by simp]
   exact Gc.by [0, 1, 4] rfl (by decide) (.cons _ _ _ _ (.sl _ _ _ _ _ _ rfl) (.cons _ _ _ _ (.sl _ _ _ _ _ _ rfl) (.cons _ _ _ _ (.sl _ _ _ _ _ _ rfl) (.free _ rfl)))) (.cons _ _ _ _ _ rfl (.row (by simp) (by simp)) (.cons _ _ _ _ _ rfl (.row (by simp) (by simp)) (.cons _ _ _ _ _ rfl (BR.grown (zeu _) rfl) .nil)))

theorem zuq {a b : List UInt8} {N i : Nat} (hN : N ≤ 10000000) (hi : i < N) (h0 : i < a.length) (h1 : i < b.length) (h : byt a i = byt b i) :
 ∃ vs1 h1, zcX Try.prog [] 100 4 [(12, .bool true), (17, .bool false), (22, .bool false), (33, .bool false)] noT DL znb (zem a b N i).1 (zem a b N i).2 = some (.norm, vs1, h1) ∧ Gc 2 vs1 h1 (zem a b N (i + 1)).1 (zem a b N (i + 1)).2 := by
 have hd : zoN a b i = false := by simp [zoN, h]; omega
 have hl := zg4 a b i
 have e0 : 0 + (i : Int).toNat * 1 = i := by omega
 have e5 : IntKind.i64.wrap ((i : Int) + 1) = ((i + 1 : Nat) : Int) := by rw [zao (by omega)]; omega
 show ∃ vs1 h1, zcX Try.prog [] 100 4 _ noT DL znb (zqE a b (zee a b i).length N i) (zqd a b (zee a b i)) = some (.norm, vs1, h1) ∧ _
 rw [zAJ]
 refine ⟨?_, ?_, ?_, ?_⟩
 rotate_left 2
 · simp only [e0, e5, zbk, zay, zaM]
   repeat (first | (refine (if_pos ?_).trans ?_; · first | (refine ⟨?_, ?_, ?_⟩ <;> first | rfl | omega) | (refine ⟨rfl, ?_, ?_, rfl, rfl⟩ <;> first | (simp; done) | omega) | omega | (simp; done) | (simp; omega)))
   rfl
 · unfold zem
   rw [zx6 hd]
   exact Gc.refl


def zim (a b : List UInt8) : Nat := max a.length b.length
theorem zzd {a b : List UInt8} (ha : a.length ≤ 1000000) (hb : b.length ≤ 1000000) : Runs Try.prog 11 [slB 0 a, slB 1 b] [zaC a, zaC b] (.sl (some (2, 0)) (zee a b (zim a b)).length 0 false) (zqd a b (zee a b (zim a b))) := by
 have hN : zim a b ≤ 10000000 := by unfold zim; omega
 have key : True → ∃ vs2 h2, Pre 2 (zzY a b (zim a b) 0) [zaC a, zaC b] vs2 h2 ∧ ∃ k, GReach (zbR Try.prog (ze4 Try.prog [] 100 4) (lsT noT) DL znb) 2 k vs2 h2 (.exit 0) (zqE a b (zee a b (zim a b)).length (zim a b) (zim a b)) (zqd a b (zee a b (zim a b))) := by
  intro _
  refine ⟨_, _, Pre.nil1 1 (.same _ _ _ (.same _ _ _ (.void _ _ _ (NRs.refl _)))) rfl, ?_⟩
  refine zwv (zem a b (zim a b)) (N := zim a b) (by simp) (fun i hi => ?_) ⟨_, _, _, (zzJ a b _ _ _ _).trans (if_pos (by simp)), Gc.refl⟩
  by_cases h0 : i < a.length
  · by_cases h1 : i < b.length
    · by_cases h2 : byt a i = byt b i
      · exact ⟨_, zuq hN hi h0 h1 h2⟩
      · exact ⟨_, zuW hN hi h0 h1 h2⟩
    · exact ⟨_, zvS hN hi h0 (by omega)⟩
  · exact ⟨_, zvq hN hi (by omega)⟩
 have lp : za0 (zaB Try.prog 11) = [DL] := by kernel_rfl
 refine Runs.ofT (zar _) (F := 100) (n := 4) (pr := []) (only (k := 2) lp (zyX (zar _) (F := 100) (n := 4) (LS := noT) (zeq (by kernel_rfl)) key)) ?_
 rw [zBk]
 have e : ((if true = true then if (b.length : Int) > (a.length : Int) then (b.length : Int) else (a.length : Int) else if (b.length : Int) < (a.length : Int) then (b.length : Int) else (a.length : Int))) = ((zim a b : Nat) : Int) := by
  rw [if_pos rfl]; unfold zim; split <;> omega
 rw [e]
 exact if_pos (zab.2 ⟨trivial, rfl, rfl⟩)

inductive DifR : List AV → zaa → AV → zaa → Prop
 | mk (x y : List UInt8) (h : zaa) (a b : AV) (k : Nat) (ga : bOk h a = true ∧ bOf h a = x) (gb : bOk h b = true ∧ bOf h b = y) (hx : x.length ≤ 1000000) (hy : y.length ≤ 1000000) (l : List Int) (hl : zee x y (zim x y) = l) (hk : h.length = k) (n : Nat) (hn : l.length = n) :
  DifR [a, b] h (.sl (some (k, 0)) n 0 false) [.cells (l.map (AV.int .i64)) 1 .own none]
theorem zBS (L : List (Nat × AV × zaa)) : SoundE Try.prog 11 (zbj (zv8 DifR L)) := by
 refine zhP (fun args h v new hR => ?_) L
 cases hR with
 | mk x y _ a b k ga gb hx hy l hl hk n hn =>
 subst hk hl hn
 obtain ⟨ga, rfl⟩ := ga
 obtain ⟨gb, rfl⟩ := gb
 exact ⟨[slB 0 (bOf h a), slB 1 (bOf h b)], [zaC (bOf h a), zaC (bOf h b)], .cons _ _ _ _ _ _ _ (zaJ ga 0) (.cons _ _ _ _ _ _ _ (zaJ gb 1) (.nil _)), _, _, zzd hx hy, [some 2], zAf (Nat.le_refl 2) rfl (by simp) (zeu _), zdJ _⟩

end Go.Proofs.Ytnchnjkakddhlaa.L
