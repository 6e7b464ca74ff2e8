/- What the document says of TCP's and UDP's segments. -/
import Derived.Test.YtmlenlfhciapfaaAddrKit
import Derived.Test.YtmlenlfhciapfaaPure
set_option autoImplicit false
set_option linter.unusedVariables false
namespace Go.Abs

theorem fdiv16s (x : Int) : x.fdiv 16 = x / 16 := Int.fdiv_eq_ediv_of_nonneg _ (by omega)
/-- Why a segment is none; 0: it is one. -/
def segR (p : Int) (l : List UInt8) : Int :=
  if p = 6 then (if l.length < 20 then 1 else if byt l 12 / 16 * 4 < 20 then 3 else if (l.length : Int) < byt l 12 / 16 * 4 then 3 else 0)
  else if p = 17 then (if l.length < 8 then 1 else if word l 4 < 8 then 3 else if (l.length : Int) < word l 4 then 3 else 0)
  else 6
def segZ (p : Int) (l : List UInt8) (x : Int) : Int := if segR p l = 0 then x else 0
def segF (p : Int) (l : List UInt8) : Int := if p = 6 then segZ p l (byt l 13) else 0
def segRead (p : Int) (l : List UInt8) : AV := .tup [.agg [.int .u16 (segZ p l (word l 0)), .int .u16 (segZ p l (word l 2)), .int .u8 (segF p l)], .int .i64 (segR p l)]
def segRRead (p : Int) (l : List UInt8) : AV := .tup [.agg [.int .i64 (segZ p l (word l 0)), .int .i64 (segZ p l (word l 2)), .int .u8 (segF p l)], .int .i64 (segR p l)]
theorem segR_len {p : Int} {l : List UInt8} (h : segR p l = 0) : (p = 6 ∧ 20 ≤ l.length) ∨ (p = 17 ∧ 8 ≤ l.length) := by
  unfold segR at h
  split at h
  · split at h
    · omega
    · exact .inl ⟨by assumption, by omega⟩
  · split at h
    · split at h
      · omega
      · exact .inr ⟨by assumption, by omega⟩
    · omega
def eSegR : GEnt := fun args h => match args with
  | [.int .u8 p, b] => some (bOk h b && decide (nOf b ≤ 1000000000000), segRead p (bOf h b), h)
  | _ => none
def eRSegR : GEnt := fun args h => match args with
  | [.int .u8 p, b] => some (bOk h b && decide (nOf b ≤ 1000000000000), segRRead p (bOf h b), h)
  | _ => none

/-- Where the checksum is; what it is to another port and address; the segment then. -/
def portAt (p : Int) : Nat := if p = 6 then 16 else 6
def portC (p : Int) (l : List UInt8) (to : Int) (A B : List UInt8) : Int := changeI (updI (word l (portAt p)) (word l 2) to) A B
def portL (p : Int) (l : List UInt8) (to : Int) (cs ds : List AV) : List UInt8 :=
  if segR p l = 0 ∧ adrV6 cs = adrV6 ds then
    (if p = 17 ∧ word l 6 = 0 then putR l 2 2 to
     else putR (putR l 2 2 to) (portAt p : Int) 2 (if p = 17 ∧ portC p l to (adrBytes cs) (adrBytes ds) = 0 then 65535 else portC p l to (adrBytes cs) (adrBytes ds)))
  else []
theorem portL_N {p : Int} {l : List UInt8} {to : Int} {cs ds : List AV} (h : segR p l ≠ 0 ∨ adrV6 cs ≠ adrV6 ds) : portL p l to cs ds = [] := by
  unfold portL; rw [if_neg]; rintro ⟨h1, h2⟩
  rcases h with h | h
  · exact h h1
  · exact h h2
theorem portL_length {p : Int} {l : List UInt8} {to : Int} {cs ds : List AV} (h : segR p l = 0 ∧ adrV6 cs = adrV6 ds) : (portL p l to cs ds).length = l.length := by
  unfold portL; rw [if_pos h]
  split
  · exact putR_length _ _ _ _
  · rw [putR_length, putR_length]
def ePort : GEnt := fun args h => match args with
  | [.int .u8 p, b, .int .u16 to, .agg cs, .agg ds] => some (bOk h b && (adrWf cs && (adrWf ds && decide (nOf b ≤ 1000000000000 ∧ 0 ≤ to ∧ to < 65536))), slB h.length (portL p (bOf h b) to cs ds), h ++ [ownB (portL p (bOf h b) to cs ds)])
  | _ => none
def eRPort : GEnt := fun args h => match args with
  | [.int .u8 p, b, .int .i64 to, .agg cs, .agg ds] => some (bOk h b && (adrWf cs && (adrWf ds && decide (nOf b ≤ 1000000000000 ∧ 0 ≤ to ∧ to < 65536))), slB h.length (portL p (bOf h b) to cs ds), h ++ [ownB (portL p (bOf h b) to cs ds)])
  | _ => none
theorem segRead_N {p r : Int} {l : List UInt8} (h : segR p l = r) (h0 : r ≠ 0) : segRead p l = .tup [.agg [.int .u16 0, .int .u16 0, .int .u8 0], .int .i64 r] ∧ segRRead p l = .tup [.agg [.int .i64 0, .int .i64 0, .int .u8 0], .int .i64 r] := by
  have hf : segF p l = 0 := by unfold segF segZ; rw [h, if_neg h0]; split <;> rfl
  have hz : ∀ x, segZ p l x = 0 := fun x => by unfold segZ; rw [h, if_neg h0]
  unfold segRead segRRead
  rw [hf, hz, hz, h]; exact ⟨rfl, rfl⟩
theorem segRead_Y {p : Int} {l : List UInt8} (h : segR p l = 0) : segRead p l = .tup [.agg [.int .u16 (word l 0), .int .u16 (word l 2), .int .u8 (segF p l)], .int .i64 0] ∧ segRRead p l = .tup [.agg [.int .i64 (word l 0), .int .i64 (word l 2), .int .u8 (segF p l)], .int .i64 0] := by
  have hz : ∀ x, segZ p l x = x := fun x => by unfold segZ; rw [if_pos h]
  unfold segRead segRRead
  rw [hz, hz, h]; exact ⟨rfl, rfl⟩

/-- What is summed ahead of a segment; is it good? -/
def pseudoL (p n : Int) (cs ds : List AV) : List UInt8 := adrBytes cs ++ adrBytes ds ++ (if adrV6 cs = true then bigR n 4 ++ [0, 0, 0, u8i p] else [0, u8i p] ++ bigR n 2)
def goodS (p : Int) (l : List UInt8) (cs ds : List AV) : Bool := decide (segR p l = 0 ∧ adrV6 cs = adrV6 ds) && (decide (p = 17 ∧ word l 6 = 0) || decide (sumI l (sumI (pseudoL p l.length cs ds) 0) = 65535))
def ePseudo : GEnt := fun args h => match args with
  | [.int .u8 p, .int .i64 n, .agg cs, .agg ds] => some (adrWf cs && (adrWf ds && decide ((0 ≤ p ∧ p < 256) ∧ 0 ≤ n ∧ adrV6 cs = adrV6 ds)), slB h.length (pseudoL p n cs ds), h ++ [ownB (pseudoL p n cs ds)])
  | _ => none
def eGoodS : GEnt := fun args h => match args with
  | [.int .u8 p, b, .agg cs, .agg ds] => some (bOk h b && (adrWf cs && (adrWf ds && decide (nOf b ≤ 1000000000000 ∧ 0 ≤ p ∧ p < 256))), .bool (goodS p (bOf h b) cs ds), h)
  | _ => none
theorem u8i_mod {n m : Int} (h : n % 256 = m % 256) : u8i n = u8i m := by unfold u8i; rw [h]
theorem be2_16 (n : Int) : IntKind.u8.wrap ((IntKind.u64.wrap (IntKind.u16.wrap n)).fdiv 256) = ((u8i (n.fdiv 256)).toNat : Int) ∧ IntKind.u8.wrap (IntKind.u64.wrap (IntKind.u16.wrap n)) = ((u8i (n.fdiv 1)).toNat : Int) := by
  have e : IntKind.u64.wrap (IntKind.u16.wrap n) = n % 65536 := by rw [wrapU16', wrapU64 (by omega)]
  rw [e, wrapU8_byte, wrapU8_byte]
  refine ⟨?_, ?_⟩ <;> congr 2 <;> apply u8i_mod
  · rw [Int.fdiv_eq_ediv_of_nonneg _ (by omega), Int.fdiv_eq_ediv_of_nonneg _ (by omega)]; omega
  · rw [Int.fdiv_eq_ediv_of_nonneg _ (by omega)]; omega
theorem be4_32 (n : Int) : IntKind.u8.wrap ((((IntKind.u64.wrap (IntKind.u32.wrap n)).fdiv 256).fdiv 256).fdiv 256) = ((u8i (n.fdiv 16777216)).toNat : Int) ∧ IntKind.u8.wrap (((IntKind.u64.wrap (IntKind.u32.wrap n)).fdiv 256).fdiv 256) = ((u8i (n.fdiv 65536)).toNat : Int) ∧
    IntKind.u8.wrap ((IntKind.u64.wrap (IntKind.u32.wrap n)).fdiv 256) = ((u8i (n.fdiv 256)).toNat : Int) ∧ IntKind.u8.wrap (IntKind.u64.wrap (IntKind.u32.wrap n)) = ((u8i (n.fdiv 1)).toNat : Int) := by
  have e : IntKind.u64.wrap (IntKind.u32.wrap n) = n % 4294967296 := by
    have : IntKind.u32.wrap n = n % 4294967296 := by simp [IntKind.wrap, IntKind.bits, IntKind.signed]
    rw [this, wrapU64 (by omega)]
  have f : ∀ x : Int, x.fdiv 256 = x / 256 := fun x => Int.fdiv_eq_ediv_of_nonneg _ (by omega)
  simp only [e, f, wrapU8_byte]
  refine ⟨?_, ?_, ?_, ?_⟩ <;> congr 2 <;> apply u8i_mod <;> (try rw [Int.fdiv_eq_ediv_of_nonneg _ (by omega)]) <;> omega

end Go.Abs
