/- Orders' bytes: plain theory. -/
import Derived.Test.YtjlepcfeeicdfaaEnK
import Derived.Test.YtjlepcfeeicdfaaAddrB
set_option autoImplicit false
set_option maxRecDepth 100000
set_option linter.unusedVariables false
set_option linter.unusedSimpArgs false
namespace Go.Proofs.Ytjlepcfeeicdfaa.L
open Go Go.Abs

def fxD (b : List UInt8) (i : Nat) : Int := if byt b 0 = 6 then byt b (1 + i) else if i < 4 then byt b (1 + i) else 0
def dOf (b : List UInt8) : DipC := dF (decide (byt b 0 = 6)) (fxD b) (word b (frN b - 2))
theorem frA_F (b : List UInt8) : frA b = adF (decide (byt b 0 = 6)) (fxD b) := by
  unfold frA fxD
  by_cases h : byt b 0 = 6
  · simp only [if_pos h, decide_eq_true h]; exact adr16_F b 1
  · simp only [if_neg h, decide_eq_false h]; exact adr4_F b 1
theorem dOf_17 (b : List UInt8) : (dOf b).cells.take 17 = frA b := by rw [frA_F]; rfl
theorem dOf_ok (b : List UInt8) : okD (dOf b) := ⟨by rw [dOf_17]; exact frA_wf b, word_range b _⟩
theorem dOf_v (b : List UInt8) : vD (dOf b) = true := by
  unfold vD; rw [dOf_17]; unfold frA
  split <;> rfl
theorem byteD_int {x : Int} (h : 0 ≤ x ∧ x < 256) : ((byteD (.int .u8 x)).toNat : Int) = x := by
  show ((UInt8.ofNat x.toNat).toNat : Int) = x
  rw [UInt8.toNat_ofNat', Nat.mod_eq_of_lt (by omega)]; omega
theorem big2_int {p : Int} (h : 0 ≤ p ∧ p < 65536) : ((u8i (p.fdiv 256)).toNat : Int) * 256 + ((u8i (p.fdiv 1)).toNat : Int) = p := by
  rw [u8i_toNat, u8i_toNat]
  have e : p.fdiv 1 = p := by simp
  rw [e, Int.fdiv_eq_ediv_of_nonneg _ (by decide)]; omega
theorem dF_ext {w : Bool} {x y : Nat → Int} {p q : Int} (h : ∀ i, i < 16 → x i = y i) (hp : p = q) : dF w x p = dF w y q := by
  subst hp
  unfold dF
  simp only [h 0 (by omega), h 1 (by omega), h 2 (by omega), h 3 (by omega), h 4 (by omega), h 5 (by omega), h 6 (by omega), h 7 (by omega), h 8 (by omega), h 9 (by omega), h 10 (by omega), h 11 (by omega), h 12 (by omega), h 13 (by omega), h 14 (by omega), h 15 (by omega)]
theorem adF_range {w : Bool} {x : Nat → Int} (h : adrWf (adF w x) = true) : ∀ i, i < 16 → 0 ≤ x i ∧ x i < 256 := by
  simp only [adF, adrV, adrWf, isByteR, List.length_cons, List.length_nil, List.all_cons, List.all_nil, Bool.and_true, Bool.and_eq_true, decide_eq_true_eq] at h
  intro i hi
  have e : i = 0 ∨ i = 1 ∨ i = 2 ∨ i = 3 ∨ i = 4 ∨ i = 5 ∨ i = 6 ∨ i = 7 ∨ i = 8 ∨ i = 9 ∨ i = 10 ∨ i = 11 ∨ i = 12 ∨ i = 13 ∨ i = 14 ∨ i = 15 := by omega
  rcases e with rfl | rfl | rfl | rfl | rfl | rfl | rfl | rfl | rfl | rfl | rfl | rfl | rfl | rfl | rfl | rfl <;> omega
theorem plc_dOf {d : DipC} (h : okD d) (hv : vD d = true) (r : List UInt8) : frOk (plcD d ++ r) ∧ frN (plcD d ++ r) = (plcD d).length ∧ dOf (plcD d ++ r) = d := by
  obtain ⟨w, x, po, rfl⟩ := dF_of d
  have hl := plcD_len h
  have hw : adrWf (adF w x) = true := h.1
  have hr := adF_range hw
  have hp : 0 ≤ po ∧ po < 65536 := h.2
  cases w
  · have hl7 : (plcD (dF false x po)).length = 7 := hl
    have h4 : byt (plcD (dF false x po) ++ r) 0 = 4 := rfl
    have h6 : ¬ byt (plcD (dF false x po) ++ r) 0 = 6 := by rw [h4]; omega
    have en : frN (plcD (dF false x po) ++ r) = 7 := by unfold frN; rw [if_neg h6, if_pos h4]
    refine ⟨⟨by simp [hl7]; omega, by omega, by rw [en, List.length_append]; omega⟩, by omega, ?_⟩
    unfold dOf
    rw [decide_eq_false h6, en]
    have hz : ∀ i, 4 ≤ i → i < 16 → x i = 0 := by
      have hv' : adrValid (adF false x) = true := hv
      simp only [adF, adrV, adrValid, List.drop, List.all_cons, List.all_nil, isZeroV_int, Bool.and_true, Bool.and_eq_true, decide_eq_true_eq] at hv'
      intro i h1 h2
      have e : i = 4 ∨ i = 5 ∨ i = 6 ∨ i = 7 ∨ i = 8 ∨ i = 9 ∨ i = 10 ∨ i = 11 ∨ i = 12 ∨ i = 13 ∨ i = 14 ∨ i = 15 := by omega
      rcases e with rfl | rfl | rfl | rfl | rfl | rfl | rfl | rfl | rfl | rfl | rfl | rfl <;> simp only [hv']
    refine dF_ext (fun i hi => ?_) ?_
    · unfold fxD
      rw [if_neg h6]
      by_cases h5 : i < 4
      · rw [if_pos h5]
        have e : i = 0 ∨ i = 1 ∨ i = 2 ∨ i = 3 := by omega
        rcases e with rfl | rfl | rfl | rfl
        · exact byteD_int (hr 0 hi)
        · exact byteD_int (hr 1 hi)
        · exact byteD_int (hr 2 hi)
        · exact byteD_int (hr 3 hi)
      · rw [if_neg h5, hz i (by omega) hi]
    · exact big2_int hp
  · have hl7 : (plcD (dF true x po)).length = 19 := hl
    have h6 : byt (plcD (dF true x po) ++ r) 0 = 6 := rfl
    have en : frN (plcD (dF true x po) ++ r) = 19 := by unfold frN; rw [if_pos h6]
    refine ⟨⟨by simp [hl7]; omega, by omega, by rw [en, List.length_append]; omega⟩, by omega, ?_⟩
    unfold dOf
    rw [decide_eq_true h6, en]
    refine dF_ext (fun i hi => ?_) ?_
    · unfold fxD
      rw [if_pos h6]
      have e : i = 0 ∨ i = 1 ∨ i = 2 ∨ i = 3 ∨ i = 4 ∨ i = 5 ∨ i = 6 ∨ i = 7 ∨ i = 8 ∨ i = 9 ∨ i = 10 ∨ i = 11 ∨ i = 12 ∨ i = 13 ∨ i = 14 ∨ i = 15 := by omega
      rcases e with rfl | rfl | rfl | rfl | rfl | rfl | rfl | rfl | rfl | rfl | rfl | rfl | rfl | rfl | rfl | rfl
      · exact byteD_int (hr 0 hi)
      · exact byteD_int (hr 1 hi)
      · exact byteD_int (hr 2 hi)
      · exact byteD_int (hr 3 hi)
      · exact byteD_int (hr 4 hi)
      · exact byteD_int (hr 5 hi)
      · exact byteD_int (hr 6 hi)
      · exact byteD_int (hr 7 hi)
      · exact byteD_int (hr 8 hi)
      · exact byteD_int (hr 9 hi)
      · exact byteD_int (hr 10 hi)
      · exact byteD_int (hr 11 hi)
      · exact byteD_int (hr 12 hi)
      · exact byteD_int (hr 13 hi)
      · exact byteD_int (hr 14 hi)
      · exact byteD_int (hr 15 hi)
    · exact big2_int hp

def atM (l : List UInt8) (a : Nat) : Nat → Nat
  | 0 => a
  | i + 1 => atM l a i + frN (l.drop (atM l a i)) + 1
def pM (l : List UInt8) (a : Nat) : Nat → PL
  | 0 => []
  | i + 1 => pM l a i ++ [(dOf (l.drop (atM l a i)), byt l (atM l a i + frN (l.drop (atM l a i))))]
def gdM (l : List UInt8) (a i : Nat) : Prop := frOk (l.drop (atM l a i)) ∧ atM l a i + frN (l.drop (atM l a i)) < l.length
instance (l : List UInt8) (a i : Nat) : Decidable (gdM l a i) := by unfold gdM; infer_instance
def memOk (P : PL) : Prop := ∀ m ∈ P, okD m.1 ∧ vD m.1 = true ∧ 0 ≤ m.2 ∧ m.2 < 256
@[simp] theorem pM_len (l : List UInt8) (a n : Nat) : (pM l a n).length = n := by
  induction n with
  | zero => rfl
  | succ n ih => simp [pM, ih]
theorem pM_ok (l : List UInt8) (a n : Nat) : memOk (pM l a n) := by
  induction n with
  | zero => intro m hm; cases hm
  | succ n ih =>
    intro m hm
    rcases List.mem_append.1 hm with h | h
    · exact ih m h
    · rw [List.mem_singleton] at h
      subst h
      exact ⟨dOf_ok _, dOf_v _, byt_range l _⟩
theorem memB_app (P Q : PL) : memB (P ++ Q) = memB P ++ memB Q := by simp [memB]
theorem mem_pM {l : List UInt8} {a : Nat} {P : PL} (h : l.drop a = memB P) (hP : memOk P) : ∀ i, i ≤ P.length → atM l a i = a + (memB (P.take i)).length ∧ pM l a i = P.take i ∧ (∀ j, j < i → gdM l a j) := by
  intro i
  induction i with
  | zero => exact fun _ => ⟨by simp [atM, memB], by simp [pM], fun j hj => by omega⟩
  | succ i ih =>
    intro hi
    obtain ⟨h1, h2, h3⟩ := ih (by omega)
    have hm := hP P[i] (List.getElem_mem (by omega))
    have e0 : P = P.take i ++ (P[i] :: P.drop (i + 1)) := by rw [← List.drop_eq_getElem_cons (by omega)]; exact (List.take_append_drop _ _).symm
    have e1 : l.drop (atM l a i) = plcD P[i].1 ++ ([u8i P[i].2] ++ memB (P.drop (i + 1))) := by
      rw [h1, ← List.drop_drop, h]
      have e3 : memB P = memB (P.take i) ++ memB (P[i] :: P.drop (i + 1)) := by rw [← memB_app, ← e0]
      rw [e3, List.drop_left' rfl]
      unfold memB
      rw [List.flatMap_cons, List.append_assoc]
    obtain ⟨g1, g2, g3⟩ := plc_dOf hm.1 hm.2.1 ([u8i P[i].2] ++ memB (P.drop (i + 1)))
    rw [← e1] at g1 g2 g3
    have hlen : (l.drop (atM l a i)).length = (plcD P[i].1).length + (1 + (memB (P.drop (i + 1))).length) := by rw [e1]; simp; omega
    rw [List.length_drop] at hlen
    have hb : byt l (atM l a i + frN (l.drop (atM l a i))) = P[i].2 := by
      rw [← byt_drop, g2, e1]
      unfold byt
      rw [List.getD_eq_getElem?_getD, List.getElem?_append_right (by omega)]
      simp only [Nat.sub_self]
      show ((u8i P[i].2).toNat : Int) = _
      rw [u8i_toNat]; omega
    have e2 : P.take (i + 1) = P.take i ++ [P[i]] := by rw [List.take_add_one, List.getElem?_eq_getElem (by omega)]; rfl
    refine ⟨?_, ?_, fun j hj => ?_⟩
    · show atM l a i + frN (l.drop (atM l a i)) + 1 = _
      rw [e2, memB_app, g2, h1, List.length_append]
      simp [memB]; omega
    · show pM l a i ++ [_] = _
      rw [h2, e2, g3, hb]
    · by_cases hj' : j = i
      · subst hj'
        exact ⟨g1, by omega⟩
      · exact h3 j (by omega)
theorem atM_ge (l : List UInt8) (a i : Nat) : i + a ≤ atM l a i := by
  induction i with
  | zero => exact Nat.le_of_eq (Nat.zero_add a)
  | succ i ih => show _ ≤ atM l a i + frN _ + 1; omega
theorem gdM_no {l : List UInt8} {a i : Nat} (h : l.length ≤ atM l a i) : ¬ gdM l a i := fun g => by
  have h1 := g.1.1
  rw [List.length_drop] at h1; omega
def nM (l : List UInt8) (a : Nat) : Nat := (List.range (l.length + 1)).findIdx fun i => !decide (gdM l a i)
theorem nM_le (l : List UInt8) (a : Nat) : nM l a ≤ l.length := by
  have : nM l a < (List.range (l.length + 1)).length := List.findIdx_lt_length_of_exists ⟨l.length, by simp, by
    have := gdM_no (l := l) (a := a) (i := l.length) (by have := atM_ge l a l.length; omega)
    simpa using this⟩
  rw [List.length_range] at this; omega
theorem nM_good {l : List UInt8} {a i : Nat} (h : i < nM l a) : gdM l a i := by
  have h2 := nM_le l a
  have := List.not_of_lt_findIdx (p := fun i => !decide (gdM l a i)) (xs := List.range (l.length + 1)) h
  simpa using this
theorem nM_bad (l : List UInt8) (a : Nat) : ¬ gdM l a (nM l a) := by
  have h2 := nM_le l a
  have := List.findIdx_getElem (p := fun i => !decide (gdM l a i)) (xs := List.range (l.length + 1)) (w := by rw [List.length_range]; exact Nat.lt_succ_of_le h2)
  rw [List.getElem_range] at this
  show ¬ gdM l a ((List.range (l.length + 1)).findIdx fun i => !decide (gdM l a i))
  simpa using this
theorem nM_eq {l : List UInt8} {a n : Nat} (h : ∀ i, i < n → gdM l a i) (hb : ¬ gdM l a n) : nM l a = n := by
  rcases Nat.lt_trichotomy (nM l a) n with g | g | g
  · exact absurd (h _ g) (nM_bad l a)
  · exact g
  · exact absurd (nM_good g) hb
theorem atM_le {l : List UInt8} {a n : Nat} (ha : a ≤ l.length + 1) (h : ∀ i, i < n → gdM l a i) : atM l a n ≤ l.length + 1 := by
  cases n with
  | zero => exact ha
  | succ n => have := (h n (by omega)).2; show atM l a n + frN _ + 1 ≤ _; omega

end Go.Proofs.Ytjlepcfeeicdfaa.L
