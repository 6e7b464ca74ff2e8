/- What the document says of IPv6's header. -/
import Derived.Test.YtlecajgikfbjbaaAddrKit
set_option autoImplicit false
set_option linter.unusedVariables false
namespace Go.Abs

/-- Why a header is none; 0: it is one. -/
def r6 (l : List UInt8) : Int :=
  if l.length < 40 then 1 else if byt l 0 / 16 ≠ 6 then 3 else if (l.length : Int) < 40 + word l 4 then 1 else if byt l 6 = 44 then 5 else if byt l 6 ≠ 6 ∧ byt l 6 ≠ 17 then 6 else 0
/-- What is told, if it is one. -/
def z6 (l : List UInt8) (x : Int) : Int := if r6 l = 0 then x else 0
def adrZ6 (l : List UInt8) (p : Nat) : List AV := adrV (decide (r6 l = 0)) (z6 l (byt l p)) (z6 l (byt l (p + 1))) (z6 l (byt l (p + 2))) (z6 l (byt l (p + 3))) (z6 l (byt l (p + 4))) (z6 l (byt l (p + 5))) (z6 l (byt l (p + 6))) (z6 l (byt l (p + 7)))
  (z6 l (byt l (p + 8))) (z6 l (byt l (p + 9))) (z6 l (byt l (p + 10))) (z6 l (byt l (p + 11))) (z6 l (byt l (p + 12))) (z6 l (byt l (p + 13))) (z6 l (byt l (p + 14))) (z6 l (byt l (p + 15)))
def head6 (l : List UInt8) : List AV := [.int .i64 (z6 l (40 + word l 4)), .int .u8 (z6 l (byt l 6))] ++ adrZ6 l 8 ++ adrZ6 l 24
def v6Read (l : List UInt8) : AV := .tup [.agg (head6 l), .int .i64 (r6 l)]
def v6RRead (l : List UInt8) : AV := .tup [.agg (.int .i64 (z6 l 40) :: head6 l), .int .i64 (r6 l)]

theorem bOf_eq {h : AHeap} {k o n r : Nat} {e : Bool} : bOf h (.sl (some (k, o)) n r e) = (rowOf h (.sl (some (k, o)) n r e)).map byteD := rfl
theorem byt_tk {l : List UInt8} {p n i : Nat} (h : i < n) : byt (List.take n (List.drop p l)) i = byt l (p + i) := byt_part h
theorem capOf_f (l c : Nat) : capOf l c false = l + c := rfl

theorem fdiv16 (x : Int) : x.fdiv 16 = x / 16 := Int.fdiv_eq_ediv_of_nonneg _ (by omega)

theorem r6_len {l : List UInt8} (h : r6 l = 0) : 40 ≤ l.length := by
  unfold r6 at h
  split at h
  · omega
  · omega
/-- The packet to another one; a header. -/
def dest6 (l : List UInt8) (cs : List AV) : List UInt8 := if r6 l = 0 ∧ adrV6 cs = true then l.take 24 ++ adrBytes cs ++ l.drop 40 else []
def makes6 (cs ds : List AV) (n : Int) : Prop := adrV6 cs = true ∧ adrV6 ds = true ∧ 0 ≤ n ∧ n ≤ 65535
instance (cs ds : List AV) (n : Int) : Decidable (makes6 cs ds n) := by unfold makes6; infer_instance
def make6 (cs ds : List AV) (pr n : Int) : List UInt8 := if makes6 cs ds n then [96, 0, 0, 0, u8i (n / 256), u8i n, u8i pr, 64] ++ adrBytes cs ++ adrBytes ds else []
def eDst6 : GEnt := fun args h => match args with
  | [b, .agg cs] => some (bOk h b && (adrWf cs && decide (nOf b ≤ 1000000000000)), slB h.length (dest6 (bOf h b) cs), h ++ [ownB (dest6 (bOf h b) cs)])
  | _ => none
def eMk6 : GEnt := fun args h => match args with
  | [.agg cs, .agg ds, .int .u8 pr, .int .i64 n] => some (adrWf cs && (adrWf ds && decide (0 ≤ pr ∧ pr < 256)), .tup [slB h.length (make6 cs ds pr n), .bool (decide (makes6 cs ds n))], h ++ [ownB (make6 cs ds pr n)])
  | _ => none

end Go.Abs
