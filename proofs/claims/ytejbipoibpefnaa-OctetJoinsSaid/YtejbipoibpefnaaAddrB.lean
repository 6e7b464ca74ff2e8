/- Texts that stand together: PutKit. -/
import Derived.Test.YtejbipoibpefnaaBase
section
/- Numbers put into bytes. -/
set_option autoImplicit false
set_option linter.unusedVariables false
set_option linter.unusedSimpArgs false
namespace Go.Abs
variable {P : Program}

def bigR (v : Int) : Nat → List UInt8
  | 0 => []
  | n + 1 => u8i (v.fdiv (256 ^ n)) :: bigR v n
@[simp] theorem bigR_length (v : Int) : ∀ n, (bigR v n).length = n
  | 0 => rfl
  | n + 1 => by simp [bigR, bigR_length v n]

theorem bigR_snoc (v : Int) : ∀ n, bigR v (n + 1) = bigR (v.fdiv 256) n ++ [u8i v]
  | 0 => by simp [bigR]
  | n + 1 => by
    rw [bigR, bigR_snoc v n, bigR]
    have hp : (0 : Int) < 256 ^ n := Int.pow_pos (by omega)
    rw [List.cons_append]
    congr 2
    rw [Int.fdiv_eq_ediv_of_nonneg _ (by rw [Int.pow_succ]; omega), Int.fdiv_eq_ediv_of_nonneg _ (by omega), Int.fdiv_eq_ediv_of_nonneg _ (by omega), Int.pow_succ, Int.mul_comm, Int.ediv_ediv, if_neg (by omega), Int.sub_zero]

def setsDown : List UInt8 → Nat → Nat → Int → List UInt8
  | l, _, 0, _ => l
  | l, p, n + 1, v => setsDown (l.set (p + n) (u8i v)) p n (v.fdiv 256)
theorem setsDown_eq : ∀ (n : Nat) (l : List UInt8) (p : Nat) (v : Int), p + n ≤ l.length → setsDown l p n v = l.take p ++ bigR v n ++ l.drop (p + n)
  | 0, l, p, v, h => by simp [setsDown, bigR]
  | n + 1, l, p, v, h => by
    rw [setsDown, setsDown_eq n _ p _ (by simp; omega), bigR_snoc]
    have e1 : (l.set (p + n) (u8i v)).take p = l.take p := by rw [List.take_set_of_le (by omega)]
    have e2 : (l.set (p + n) (u8i v)).drop (p + n) = u8i v :: l.drop (p + (n + 1)) := by
      rw [List.drop_set, if_neg (by omega), Nat.sub_self, List.drop_eq_getElem_cons (by omega)]
      rfl
    rw [e1, e2]
    simp

def putR (l : List UInt8) (p : Int) (sz : Nat) (v : Int) : List UInt8 := if 0 ≤ p ∧ p + sz ≤ (l.length : Int) then l.take p.toNat ++ bigR v sz ++ l.drop (p.toNat + sz) else l
@[simp] theorem putR_length (l : List UInt8) (p : Int) (sz : Nat) (v : Int) : (putR l p sz v).length = l.length := by
  unfold putR
  split
  · simp; omega
  · rfl

@[simp] theorem intV_some (k : IntKind) (n : Int) : intV (some (.int k n)) = n := rfl
@[simp] theorem boolV_some (b : Bool) : boolV (some (.bool b)) = b := rfl
@[simp] theorem isIntV_some (k : IntKind) (n : Int) : isIntV k (some (.int k n)) = true := by simp [isIntV]
@[simp] theorem byteD_u8 (k : IntKind) (x : UInt8) : byteD (.int k ((x.toNat : Nat) : Int)) = x := by simp [byteD]
theorem bigR_emod (v : Int) : ∀ n m, n ≤ m → bigR (v % 256 ^ m) n = bigR v n
  | 0, _, _ => rfl
  | n + 1, m, h => by
    simp only [bigR]
    rw [bigR_emod v n m (by omega)]
    congr 1
    have hp : (0 : Int) < 256 ^ n := Int.pow_pos (by omega)
    obtain ⟨d, rfl⟩ : ∃ d, m = n + 1 + d := ⟨m - (n + 1), by omega⟩
    have e : (256 : Int) ^ (n + 1 + d) = 256 ^ n * (256 * 256 ^ d) := by
      rw [Int.pow_add, Int.pow_succ, Int.mul_assoc]
    have e2 : v % 256 ^ (n + 1 + d) = v - 256 ^ n * ((256 * 256 ^ d) * (v / 256 ^ (n + 1 + d))) := by
      have := Int.mul_ediv_add_emod v (256 ^ (n + 1 + d))
      rw [← Int.mul_assoc, ← e]; omega
    rw [e2, Int.fdiv_eq_ediv_of_nonneg _ (by omega), Int.fdiv_eq_ediv_of_nonneg _ (by omega), Int.sub_eq_add_neg, ← Int.mul_neg, Int.add_mul_ediv_left _ _ (by omega)]
    unfold u8i
    congr 2
    rw [Int.mul_assoc, ← Int.mul_neg, Int.add_mul_emod_self_left]

theorem putA (q i : Nat) (j : Int) (hj : j = i) (hq : q ≤ 1000000000000) (hi : i ≤ 8) : IntKind.i64.wrap ((q : Int) + j) = ((q + i : Nat) : Int) := by
  subst hj
  rw [wrapI64 (by omega)]; omega
theorem putB (q i : Nat) : 0 + ((q + i : Nat) : Int).toNat * 1 = q + i := by omega

theorem posOf1 {i k j : Nat} (h : posOf [i] k = some j) : k = i ∧ j = 0 := by
  simp only [posOf] at h
  split at h
  · rename_i e; simp at h; exact ⟨e.symm, h.symm⟩
  · simp at h

theorem frame_one {f : FuncId} {args : Nat → List AV} {h : AHeap} {i : Nat} {vs vs' : List AV} {e : Nat} {par : Option Nat} {v : AV} (hb : h[i]? = some (.cells vs e .own par)) (hpar : par ≠ some i)
    (ha : ∀ i ρ, ρ i = some 0 → ARs ρ (args i) (args 0)) (hr : Runs P f (args 0) [.cells vs e .own none] v [.cells vs' e .own none]) (hf : AV.frees vs' = true) (hv : v.free = true) (hfv : AV.frees vs = true := by first | rfl | simp) :
    ∃ q, Frames P f (args i) (killp h q) v ((killp h par).set i (.cells vs' e .own none)) := by
  have hi := (List.getElem?_eq_some_iff.1 hb).1
  have hb2 : (killp h par)[i]? = some (.cells vs e .own par) := by rw [killp_get_ne hpar]; exact hb
  refine ⟨par, [i], [], args 0, [.cells vs e .own none], v, [.cells vs' e .own none], [.cells vs' e .own none], [], by simp, by simp, by simp, ha _ _ (by simp [posOf]), ?_, ?_, hr, ?_, .nil, .free _ hv, by simp [setAll]⟩
  · exact .cons _ _ _ _ _ hb2 (.cells _ _ _ _ _ _ (.free _ hfv) fun p j hp hq => by
      obtain ⟨rfl, rfl⟩ := posOf1 hq
      exact absurd hp hpar) .nil
  · intro k hk b hb'
    simp only [List.mem_singleton] at hk
    subst hk
    rw [hb2] at hb'; cases hb'
    refine ⟨rfl, fun q c hq hc => ?_⟩
    simp only [ABlk.par] at hq
    subst hq
    rw [killp, List.getElem?_set] at hc
    split at hc
    · split at hc
      · cases hc; rfl
      · simp at hc
    · rename_i hne; exact absurd rfl hne
  · exact .cons _ _ _ _ _ rfl (.row hf (by simp)) .nil

end Go.Abs

end
