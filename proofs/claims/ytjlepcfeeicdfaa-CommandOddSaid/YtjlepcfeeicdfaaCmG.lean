/- Orders and their bytes: which order bytes are. -/
import Derived.Test.YtjlepcfeeicdfaaCmT
import Derived.Test.YtjlepcfeeicdfaaErK
set_option autoImplicit false
set_option maxRecDepth 100000
set_option linter.unusedVariables false
set_option linter.unusedSimpArgs false
namespace Go.Proofs.Ytjlepcfeeicdfaa.L
open Go Go.Abs

def GoodC (l : List UInt8) (k pr : Int) (d : DipC) (P : PL) : Prop := mayM k d P ∧ okD d ∧ okP P ∧ (0 ≤ pr ∧ pr < 256) ∧ encL k pr d P = l
theorem may_mem {k : Int} {d : DipC} {P : PL} (h : mayM k d P) (ho : okP P) : memOk P := by
  intro m hm
  have h2 := h.2
  rw [List.any_eq_false] at h2
  have hb : badM k m = false := by simpa using h2 m hm
  obtain ⟨h1, h3, h4, _⟩ := badM_no hb
  exact ⟨ho m hm, h1, h3, by omega⟩
theorem byt_u8i {x : Int} (h : 0 ≤ x ∧ x < 256) (l : List UInt8) : byt (u8i x :: l) 0 = x := by
  show ((u8i x).toNat : Int) = x
  rw [u8i_toNat]; omega
theorem goodC_parse {l : List UInt8} {k pr : Int} {d : DipC} {P : PL} (h : GoodC l k pr d P) :
    2 ≤ l.length ∧ byt l 0 = k ∧ byt l 1 = pr ∧ frOk (l.drop 2) ∧ dOf (l.drop 2) = d ∧ (k = 2 → 2 + frN (l.drop 2) = l.length ∧ P = []) ∧ (k ≠ 2 → 2 + frN (l.drop 2) < l.length ∧ byt l (2 + frN (l.drop 2)) = P.length) ∧ l.drop (2 + frN (l.drop 2) + 1) = memB P ∧ memOk P := by
  obtain ⟨hm, hd, ho, hr, rfl⟩ := h
  have hM := may_mem hm ho
  obtain ⟨⟨h1, h2, h3, h4, h5, h6⟩, _⟩ := hm
  have hk : byt (encL k pr d P) 0 = k := by
    show ((u8i k).toNat : Int) = k
    rw [u8i_toNat]; omega
  have hp : byt (encL k pr d P) 1 = pr := by
    show ((u8i pr).toNat : Int) = pr
    rw [u8i_toNat]; omega
  have hdr : (encL k pr d P).drop 2 = plcD d ++ (if k = 2 then [] else u8i P.length :: memB P) := rfl
  obtain ⟨g1, g2, g3⟩ := plc_dOf hd h6 (if k = 2 then [] else u8i P.length :: memB P)
  rw [← hdr] at g1 g2 g3
  have hl : (encL k pr d P).length = 2 + ((plcD d).length + (if k = 2 then [] else u8i P.length :: memB P).length) := by
    show ([u8i k, u8i pr] ++ plcD d ++ _).length = _
    simp only [List.length_append, List.length_cons, List.length_nil]; omega
  have hd3 : (encL k pr d P).drop (2 + frN ((encL k pr d P).drop 2)) = (if k = 2 then [] else u8i P.length :: memB P) := by
    rw [← List.drop_drop, g2]
    conv => lhs; rw [hdr]
    exact List.drop_left' rfl
  refine ⟨by omega, hk, hp, g1, g3, fun e => ?_, fun e => ?_, ?_, hM⟩
  · rw [if_pos e] at hl
    exact ⟨by rw [g2, hl]; rfl, List.eq_nil_of_length_eq_zero (h4 e)⟩
  · rw [if_neg e] at hl hd3
    refine ⟨by rw [g2, hl]; simp, ?_⟩
    have := byt_drop (encL k pr d P) (2 + frN ((encL k pr d P).drop 2)) 0
    rw [hd3, Nat.add_zero, byt_u8i (by omega)] at this
    exact this.symm
  · rw [← List.drop_drop, hd3]
    by_cases e : k = 2
    · rw [if_pos e, List.eq_nil_of_length_eq_zero (h4 e)]; rfl
    · rw [if_neg e]; rfl
theorem goodC_walk {l : List UInt8} {k pr : Int} {d : DipC} {P : PL} (h : GoodC l k pr d P) : (∀ i, i < P.length → gdM l (2 + frN (l.drop 2) + 1) i) ∧ nM l (2 + frN (l.drop 2) + 1) = P.length ∧ pM l (2 + frN (l.drop 2) + 1) P.length = P ∧ (k ≠ 2 → atM l (2 + frN (l.drop 2) + 1) P.length = l.length) := by
  obtain ⟨g1, g2, g3, g4, g5, g6, g7, g8, g9⟩ := goodC_parse h
  obtain ⟨h1, h2, h3⟩ := mem_pM g8 g9 P.length (Nat.le_refl _)
  rw [List.take_length] at h1 h2
  have hl : (l.drop (2 + frN (l.drop 2) + 1)).length = (memB P).length := by rw [g8]
  rw [List.length_drop] at hl
  have ht : l.length ≤ atM l (2 + frN (l.drop 2) + 1) P.length := by omega
  refine ⟨h3, nM_eq h3 (gdM_no ht), h2, fun e => ?_⟩
  have := (g7 e).1
  omega
theorem goodC_uniq {l : List UInt8} {k pr k' pr' : Int} {d d' : DipC} {P P' : PL} (h : GoodC l k pr d P) (h' : GoodC l k' pr' d' P') : k = k' ∧ pr = pr' ∧ d = d' ∧ P = P' := by
  obtain ⟨g1, g2, g3, g4, g5, _⟩ := goodC_parse h
  obtain ⟨f1, f2, f3, f4, f5, _⟩ := goodC_parse h'
  obtain ⟨_, w1, w2, _⟩ := goodC_walk h
  obtain ⟨_, v1, v2, _⟩ := goodC_walk h'
  refine ⟨g2.symm.trans f2, g3.symm.trans f3, g5.symm.trans f5, ?_⟩
  rw [← w1] at w2
  rw [← v1] at v2
  exact w2.symm.trans v2

end Go.Proofs.Ytjlepcfeeicdfaa.L
