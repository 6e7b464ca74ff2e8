/- octet's Put and Append. -/
import Derived.Test.YtjlepcfeeicdfaaOctB
import Derived.Test.YtjlepcfeeicdfaaAddrB
set_option autoImplicit false
set_option maxRecDepth 100000
set_option linter.unusedVariables false
set_option linter.unusedSimpArgs false
namespace Go.Proofs.Ytjlepcfeeicdfaa.L
open Go Go.Abs
open Go.IntKind (u8 u16 u32 u64 i64)
open Go.Abs.AV (int)
open Go.Abs.ABlk (cells)

noncomputable def hPut160 (l : List UInt8) (p v : Int) : AHeap := [cells (bys l) 1 Md.own none]
noncomputable def hPut161 (l : List UInt8) (p v : Int) : AHeap := [cells (putCells (putCells (bys l) (0 + (i64.wrap (p + 1)).toNat * 1) [int u8 (u8.wrap (u64.wrap v))]) (0 + (i64.wrap (p + 0)).toNat * 1) [int u8 (u8.wrap ((u64.wrap v).fdiv 256))]) 1 Md.own none]
theorem nfPut16 {R : Type} (l : List UInt8) (p v : Int) (K : AV → AHeap → Option R) :
 qrun Try.prog [] 100 4 [] [] 46 [slB 0 l, .int .i64 p, .int .u16 v] [ownB l] K =
 (if decide (p ≥ 0) = true then
 (if decide (p ≤ (l.length : Int)) = true then
 (if (!decide (i64.wrap ((l.length : Int) - p) ≥ 2)) = true then
 K (AV.bool false) ((hPut160 l p v))
 else (if 0 ≤ i64.wrap (p + 1) ∧ i64.wrap (p + 1) < (l.length : Int) then
 (if 0 + (i64.wrap (p + 1)).toNat * 1 + [int u8 (u8.wrap (u64.wrap v))].length ≤ (bys l).length ∧ [int u8 (u8.wrap (u64.wrap v))].all AV.isCell = true then
 (if 0 ≤ i64.wrap (p + 0) ∧ i64.wrap (p + 0) < (l.length : Int) then
 (if 0 + (i64.wrap (p + 0)).toNat * 1 + [int u8 (u8.wrap ((u64.wrap v).fdiv 256))].length ≤ (putCells (bys l) (0 + (i64.wrap (p + 1)).toNat * 1) [int u8 (u8.wrap (u64.wrap v))]).length ∧ [int u8 (u8.wrap ((u64.wrap v).fdiv 256))].all AV.isCell = true then
 K (AV.bool true) ((hPut161 l p v))
 else none) else none) else none) else none))
 else K (AV.bool false) ((hPut160 l p v)))
 else K (AV.bool false) ((hPut160 l p v))) := by
  kernel_rfl

theorem runPut16 (l : List UInt8) (p v : Int) (hl : l.length ≤ 1000000000000) (hv : 0 ≤ v ∧ v < 256 ^ 2) : Runs Try.prog 46 [slB 0 l, .int .i64 p, .int .u16 v] [ownB l] (.bool (decide (0 ≤ p ∧ p + 2 ≤ (l.length : Int)))) [ownB (putR l p 2 v)] := by
  refine Runs.ofT0 (find_nil _) (F := 100) (n := 4) (pr := []) ?_
  rw [nfPut16]
  by_cases h : 0 ≤ p ∧ p + 2 ≤ (l.length : Int)
  · obtain ⟨q, rfl⟩ := Int.eq_ofNat_of_zero_le h.1
    rw [decide_eq_true h, putR, if_pos (c := 0 ≤ (q : Int) ∧ (q : Int) + ((2 : Nat) : Int) ≤ (l.length : Int)) ⟨h.1, by omega⟩]
    have w1 : i64.wrap ((l.length : Int) - q) = l.length - q := wrapI64 (by omega)
    have hq : q ≤ 1000000000000 := by omega
    have wv : u64.wrap v = v := wrapU64 (by omega)
    have a0 : i64.wrap ((q : Int) + 0) = ((q + 0 : Nat) : Int) := putA q 0 0 rfl hq (by decide)
    have b0 : 0 + ((q + 0 : Nat) : Int).toNat * 1 = q + 0 := putB q 0
    have a1 : i64.wrap ((q : Int) + 1) = ((q + 1 : Nat) : Int) := putA q 1 1 rfl hq (by decide)
    have b1 : 0 + ((q + 1 : Nat) : Int).toNat * 1 = q + 1 := putB q 1
    unfold hPut160 hPut161
    rw [w1, wv]
    simp only [a0, a1, b0, b1, putCells_byte]
    clear a0 b0 a1 b1 wv hv
    refine (if_pos (by simp)).trans ?_
    refine (if_pos (by simp; omega)).trans ?_
    refine (if_neg (by simp; omega)).trans ?_
    repeat (first | (refine (if_pos ?_).trans ?_; · first | (simp only [putCells_len, bys_length, List.length_cons, List.length_nil, List.length_set, List.all_cons, List.all_nil, isCell_int, Bool.and_self, and_true]; omega) | omega))
    have e := setsDown_eq 2 l q v (by omega)
    simp only [Int.toNat_natCast]
    rw [← e]
    simp only [setsDown]
  · rw [decide_eq_false h, putR, if_neg (c := 0 ≤ p ∧ p + ((2 : Nat) : Int) ≤ (l.length : Int)) (by omega)]
    by_cases h0 : 0 ≤ p
    · refine (if_pos (by simpa using h0)).trans ?_
      by_cases h1 : p ≤ (l.length : Int)
      · have w1 : i64.wrap ((l.length : Int) - p) = l.length - p := wrapI64 (by omega)
        rw [w1]
        refine (if_pos (by simpa using h1)).trans ?_
        exact if_pos (by simp; omega)
      · exact if_neg (by simpa using h1)
    · exact if_neg (by simpa using h0)

noncomputable def ePut16 : GEnt := fun args h => match args with
  | [.sl (some (i, o)) n r e, .int .i64 p, .int .u16 v] => match h[i]? with
    | some (.cells vs esz .own par) => some (cdec (o = 0 ∧ r = 0 ∧ e = false ∧ esz = 1 ∧ n = vs.length ∧ n ≤ 1000000000000 ∧ vs.all isByteR = true ∧ 0 ≤ v ∧ v < 256 ^ 2 ∧ par ≠ some i),
        .bool (decide (0 ≤ p ∧ p + 2 ≤ (n : Int))), (killp h par).set i (ownB (putR (vs.map byteD) p 2 v)))
    | _ => none
  | _ => none

theorem sPut16 : SoundE Try.prog 46 (entF ePut16) := by
  refine frame_sound fun args h v h' hg => ?_
  unfold ePut16 at hg
  split at hg
  · rename_i i o n r e p x
    split at hg
    · rename_i vs esz par hb
      simp only [Option.some.injEq, Prod.mk.injEq] at hg
      obtain ⟨hc, rfl, rfl⟩ := hg
      rw [cdec_true] at hc
      obtain ⟨rfl, rfl, rfl, rfl, rfl, hn, hv, hx0, hx1, hpar⟩ := hc
      have hvs := bytes_of hv
      generalize vs.map byteD = l at hvs
      subst hvs
      rw [bys_length] at hn ⊢
      exact frame_one (args := fun i => [.sl (some (i, 0)) l.length 0 false, .int .i64 p, .int .u16 x]) hb hpar (fun _ _ hr => .cons _ _ _ _ (.sl _ _ _ _ _ _ hr) (.free _ rfl)) (runPut16 l p x hn ⟨hx0, hx1⟩) (bys_frees _) rfl
    · simp at hg
  · simp at hg


end Go.Proofs.Ytjlepcfeeicdfaa.L
