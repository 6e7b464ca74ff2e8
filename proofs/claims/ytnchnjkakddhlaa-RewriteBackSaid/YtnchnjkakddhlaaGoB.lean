/- Where built frames differ. -/
import Derived.Test.YtnchnjkakddhlaaGoKit
import Derived.Test.YtnchnjkakddhlaaDifK
set_option autoImplicit false
set_option maxRecDepth 100000
set_option linter.unusedVariables false
set_option linter.unusedSimpArgs false
namespace Go.Proofs.Ytnchnjkakddhlaa.L
open Go Go.Abs

theorem zlt (l r : List UInt8) (i : Nat) : byt (l ++ r) i = if i < l.length then byt l i else byt r (i - l.length) := by
 unfold byt
 simp only [List.getD_eq_getElem?_getD]
 split
 · rename_i h; rw [List.getElem?_append_left h]
 · rename_i h; rw [List.getElem?_append_right (by omega)]
def zBE (C : Int) (i : Nat) : Int := if i = 10 then ((u8i (C / 256)).toNat : Int) else ((u8i C).toNat : Int)
theorem zsw {L : Int} {p : UInt8} {C : Int} {S D : List UInt8} (hS : S.length = 4) (hD : D.length = 4) {i : Nat} (hi : i < 20) :
 byt (hdO 0 L p C S D []) i = if i < 10 then byt (hdO 0 L p 0 S D []) i else if i < 12 then zBE C i else if i < 16 then byt S (i - 12) else byt D (i - 16) := by
 obtain ⟨s0, s1, s2, s3, rfl⟩ := zfQ hS
 obtain ⟨d0, d1, d2, d3, rfl⟩ := zfQ hD
 rcases (show i = 0 ∨ i = 1 ∨ i = 2 ∨ i = 3 ∨ i = 4 ∨ i = 5 ∨ i = 6 ∨ i = 7 ∨ i = 8 ∨ i = 9 ∨ i = 10 ∨ i = 11 ∨ i = 12 ∨ i = 13 ∨ i = 14 ∨ i = 15 ∨ i = 16 ∨ i = 17 ∨ i = 18 ∨ i = 19 by omega) with h | h | h | h | h | h | h | h | h | h | h | h | h | h | h | h | h | h | h | h <;> subst h <;> rfl
variable {v tag u : Bool} {C C' Cs Cs' sp dp dp' : Int} {fl : UInt8} {X Y Y' d pd : List UInt8}
theorem zrt (H : FrmOk v tag u C Cs sp dp fl X Y d pd) (i : Nat) : byt (frB v tag u C Cs sp dp fl X Y d pd) i =
 if i < frA tag then byt (zbn v tag) i else if i < frA tag + frH v then byt (ipH v (prt u) (hdn u + d.length : Nat) C X Y) (i - frA tag) else if i < frA tag + frH v + (hdn u + d.length) then byt (zbU u sp dp fl Cs d) (i - (frA tag + frH v)) else byt pd (i - (frA tag + frH v + (hdn u + d.length))) := by
 unfold frB frm
 rw [zlt, zdY, zlt, zf2 H.hx.1 H.hy.1, zlt, zaQ]
 by_cases h1 : i < frA tag
 · rw [if_pos h1, if_pos h1]
 rw [if_neg h1, if_neg h1]
 by_cases h2 : i < frA tag + frH v
 · rw [if_pos (by omega), if_pos h2]
 rw [if_neg (by omega), if_neg h2]
 by_cases h3 : i < frA tag + frH v + (hdn u + d.length)
 · rw [if_pos (by omega), if_pos h3]; congr 1; omega
 · rw [if_neg (by omega), if_neg h3]; congr 1; omega
theorem zw4 (H : FrmOk v tag u C Cs sp dp fl X Y d pd) (H' : FrmOk v tag u C' Cs' sp dp fl X Y d pd) (hC : v = false → (C' - C) % 65535 = 0) (hCs : (Cs' - Cs) % 65535 = 0) (i : Nat) :
 byt (frB v tag u C Cs sp dp fl X Y d pd) i = byt (frB v tag u C' Cs' sp dp fl X Y d pd) i ∨
  (((v = false ∧ (i = frA tag + 10 ∨ i = frA tag + 11)) ∨ i = frA tag + frH v + zoC u ∨ i = frA tag + frH v + zoC u + 1) ∧ byt (frB v tag u C Cs sp dp fl X Y d pd) i % 255 = 0 ∧ byt (frB v tag u C' Cs' sp dp fl X Y d pd) i % 255 = 0) := by
 rw [zrt H, zrt H']
 by_cases h1 : i < frA tag
 · left; rw [if_pos h1, if_pos h1]
 rw [if_neg h1, if_neg h1]
 by_cases h2 : i < frA tag + frH v
 · rw [if_pos h2, if_pos h2]
   cases v
   · have hf : frH false = 20 := rfl
     rw [hf] at h2
     have hX4 : (X.take 4).length = 4 := by simp [H.hx.1]
     have hY4 : (Y.take 4).length = 4 := by simp [H.hy.1]
     have e1 : ∀ (K : Int), ipH false (prt u) (hdn u + d.length : Nat) K X Y = hdO 0 (20 + (hdn u + d.length : Nat)) (u8i (prt u)) K (X.take 4) (Y.take 4) [] := fun K => rfl
     rw [e1, e1, zsw hX4 hY4 (by omega), zsw (C := C') hX4 hY4 (by omega)]
     by_cases a1 : i - frA tag < 10
     · left; rw [if_pos a1, if_pos a1]
     rw [if_neg a1, if_neg a1]
     by_cases a2 : i - frA tag < 12
     · rw [if_pos a2, if_pos a2]
       have c1 := H.hc
       have c2 := H'.hc
       have c3 := hC rfl
       by_cases ec : C = C'
       · left; rw [ec]
       · right
         refine ⟨.inl ⟨rfl, by omega⟩, ?_⟩
         unfold zBE
         simp only [zaG]
         have : C = 0 ∧ C' = 65535 ∨ C = 65535 ∧ C' = 0 := by omega
         rcases this with ⟨rfl, rfl⟩ | ⟨rfl, rfl⟩ <;> split <;> decide
     rw [if_neg a2, if_neg a2]
     left; rfl
   · left
     rfl
 rw [if_neg h2, if_neg h2]
 by_cases h3 : i < frA tag + frH v + (hdn u + d.length)
 · rw [if_pos h3, if_pos h3]
   rcases zsj (u := u) (sp := sp) (dp := dp) (fl := fl) (d := d) H.hcs H'.hcs hCs (i - (frA tag + frH v)) with h | ⟨h, g⟩
   · exact .inl h
   · right; exact ⟨.inr (by omega), g⟩
 · left; rw [if_neg h3, if_neg h3]
theorem zv1 {a b : List UInt8} {i : Nat} (h : i < (zee a b (zim a b)).length) : ∃ p : Nat, (zee a b (zim a b))[i] = (p : Int) ∧ p < zim a b ∧ zoN a b p = true := by
 have hm := List.getElem_mem h
 unfold zee at hm
 obtain ⟨p, hp, he⟩ := List.mem_map.1 hm
 obtain ⟨h1, h2⟩ := List.mem_filter.1 hp
 exact ⟨p, he.symm, List.mem_range.1 h1, h2⟩
theorem zxn {a b : List UInt8} {p : Nat} (hl : a.length = b.length) (hp : p < zim a b) (h : zoN a b p = true) : byt a p ≠ byt b p ∧ p < a.length := by
 unfold zim at hp
 unfold zoN at h
 simp only [Bool.or_eq_true, decide_eq_true_eq] at h
 rcases h with (h | h) | h
 · omega
 · omega
 · exact ⟨h, by omega⟩

end Go.Proofs.Ytnchnjkakddhlaa.L
