/- Rows of bytes that came in. -/
import Derived.Test.YthkicndbaaconaaA13
set_option autoImplicit false
namespace Go.Proofs.Ythkicndbaaconaa.L3
open Go.Abs Go.ChangeShapes

theorem bytes_of {zs : List Int} (h : ∀ n ∈ zs, (Lit.int .u8 n).wf = true) : ByteL zs := by
  intro z hz
  have := h z hz
  simp [Lit.wf, IntKind.min, IntKind.max, IntKind.signed, IntKind.bits] at this
  omega

theorem good_at {hp : AHeap} {k len : Nat} {zs : List Int} (hk : hp[k]? = some (.cells (intsA .u8 zs) 1 .far none)) (hz : ByteL zs) (hl : len ≤ zs.length) : goodB hp (some (k, 0)) len := by
  refine ⟨⟨zs.take len, by simp; omega, fun z h => hz z (List.mem_of_mem_take h), _, _, _, _, hk, by rw [intsA_length]; omega, ?_⟩, by simp⟩
  simp [intsA]

/-- What a slice of bytes that came in is. -/
theorem came {H : Type} {d : DataW H} {b : AV} {zs : List Int} {k : Nat} (hwf : ∀ n ∈ zs, (Lit.int .u8 n).wf = true)
    (hd : (b = .sl none 0 0 true ∧ zs = [] ∧ d = .nil) ∨ ∃ len cap, b = .sl (some (k, 0)) len cap true ∧ len ≤ cap ∧ cap = zs.length ∧ cap ≤ maxLen ∧ d = .slice (lits .u8 (zs.take len)) (lits .u8 (zs.drop len))) :
    ∃ b' n c, b = .sl b' n c true ∧ n ≤ c ∧ ∀ hp : AHeap, hp[k]? = some (.cells (intsA .u8 zs) 1 .far none) → goodB hp b' n := by
  rcases hd with ⟨rfl, rfl, _⟩ | ⟨len, cap, rfl, h1, rfl, h2, _⟩
  · exact ⟨none, 0, 0, rfl, by omega, fun hp _ => ⟨⟨[], rfl, fun z h => (by cases h), trivial⟩, fun _ => rfl⟩⟩
  · exact ⟨some (k, 0), len, _, rfl, h1, fun hp hk => good_at hk (bytes_of hwf) h1⟩

end Go.Proofs.Ythkicndbaaconaa.L3
