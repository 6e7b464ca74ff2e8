/- SegBack's loop: what the kernel makes of a round. -/
import Derived.Test.YtmlenlfhciapfaaSegBackN
set_option autoImplicit false
set_option maxRecDepth 100000
set_option linter.unusedVariables false
set_option linter.unusedSimpArgs false
namespace Go.Proofs.Ytmlenlfhciapfaa.L
open Go Go.Abs
open Go.IntKind
open Go.Abs.AV (int)
open Go.Abs.ABlk (cells)
noncomputable def hSegBackRTE0 (v : Bool) (n m e f g N i : Int) (d S S1 S2 : List UInt8) : AHeap := [cells (bys d) 1 Md.far none, cells [int u8 6, AV.bool v, int u8 10, int u8 (kb1 n), int u8 (kb2 n), int u8 (kb3 n), int u8 0, int u8 0, int u8 0, int u8 0, int u8 0, int u8 0, int u8 0, int u8 0, int u8 0, int u8 0, int u8 0, int u8 0, AV.bool v, int u8 192, int u8 168, int u8 0, int u8 1, int u8 0, int u8 0, int u8 0, int u8 0, int u8 0, int u8 0, int u8 0, int u8 0, int u8 0, int u8 0, int u8 0, int u8 0, int u16 (kport n), int u16 80] 37 Md.own none, cells [AV.bool v, int u8 172, int u8 16, int u8 0, int u8 (db3 m), int u8 0, int u8 0, int u8 0, int u8 0, int u8 0, int u8 0, int u8 0, int u8 0, int u8 0, int u8 0, int u8 0, int u8 0, int u16 (dport m)] 18 Md.own none, cells (bys S) 1 Md.own none, cells (bys S1) 1 Md.own none, cells (bys S2) 1 Md.own none]
theorem nfSegBackRTE (v : Bool) (n m e f g N i : Int) (d S S1 S2 : List UInt8) :
 qround Try.prog (tSB S S1 S2 (.tup [.agg [.int .u16 e, .int .u16 f, .int .u8 g], .int .i64 0])) 100 4 [(68, .bool false)] noT (loopIn (bodyOf Try.prog 6) 0) mSB [.ptr (some (1, 0)), .ptr (some (2, 0)), slB 3 S, slB 4 S1, slB 5 S2, .int .i64 16, .int .i64 i] (hSegBackT6 v n m e f g N d S S1 S2) =
 (if decide (i < (S.length : Int)) = false then
 some ((AEx.exit 0, [AV.ptr (some (1, 0)), AV.ptr (some (2, 0)), AV.sl (some (3, 0)) S.length 0 false, AV.sl (some (4, 0)) S1.length 0 false, AV.sl (some (5, 0)) S2.length 0 false, int i64 16, int i64 i], (hSegBackRTE0 v n m e f g N i d S S1 S2)))
 else none) := by
  kernel_rfl

noncomputable def hSegBackRT10 (v : Bool) (n m e f g N i : Int) (d S S1 S2 : List UInt8) : AHeap := [cells (bys d) 1 Md.far none, cells [int u8 6, AV.bool v, int u8 10, int u8 (kb1 n), int u8 (kb2 n), int u8 (kb3 n), int u8 0, int u8 0, int u8 0, int u8 0, int u8 0, int u8 0, int u8 0, int u8 0, int u8 0, int u8 0, int u8 0, int u8 0, AV.bool v, int u8 192, int u8 168, int u8 0, int u8 1, int u8 0, int u8 0, int u8 0, int u8 0, int u8 0, int u8 0, int u8 0, int u8 0, int u8 0, int u8 0, int u8 0, int u8 0, int u16 (kport n), int u16 80] 37 Md.own none, cells [AV.bool v, int u8 172, int u8 16, int u8 0, int u8 (db3 m), int u8 0, int u8 0, int u8 0, int u8 0, int u8 0, int u8 0, int u8 0, int u8 0, int u8 0, int u8 0, int u8 0, int u8 0, int u16 (dport m)] 18 Md.own none, cells (bys S) 1 Md.own none, cells (bys S1) 1 Md.own none, cells (bys S2) 1 Md.own none]
theorem nfSegBackRT1 (v : Bool) (n m e f g N i : Int) (d S S1 S2 : List UInt8) :
 qround Try.prog (tSB S S1 S2 (.tup [.agg [.int .u16 e, .int .u16 f, .int .u8 g], .int .i64 0])) 100 4 [(68, .bool true), (79, .bool false)] noT (loopIn (bodyOf Try.prog 6) 0) mSB [.ptr (some (1, 0)), .ptr (some (2, 0)), slB 3 S, slB 4 S1, slB 5 S2, .int .i64 16, .int .i64 i] (hSegBackT6 v n m e f g N d S S1 S2) =
 (if decide (i < (S.length : Int)) = true then
 (if 0 ≤ i ∧ i < (S.length : Int) then
 (if isIntV u8 (bys S)[0 + i.toNat * 1]? = true then
 (if 0 ≤ i ∧ i < (S2.length : Int) then
 (if isIntV u8 (bys S2)[0 + i.toNat * 1]? = true then
 (if (intV (bys S)[0 + i.toNat * 1]? != intV (bys S2)[0 + i.toNat * 1]?) = false then
 some ((AEx.norm, [AV.ptr (some (1, 0)), AV.ptr (some (2, 0)), AV.sl (some (3, 0)) S.length 0 false, AV.sl (some (4, 0)) S1.length 0 false, AV.sl (some (5, 0)) S2.length 0 false, int i64 16, int i64 (i64.wrap (i + 1))], (hSegBackRT10 v n m e f g N i d S S1 S2)))
 else none) else none) else none) else none) else none) else none) := by
  kernel_rfl

noncomputable def hSegBackRT20 (v : Bool) (n m e f g N i : Int) (d S S1 S2 : List UInt8) : AHeap := [cells (bys d) 1 Md.far none, cells [int u8 6, AV.bool v, int u8 10, int u8 (kb1 n), int u8 (kb2 n), int u8 (kb3 n), int u8 0, int u8 0, int u8 0, int u8 0, int u8 0, int u8 0, int u8 0, int u8 0, int u8 0, int u8 0, int u8 0, int u8 0, AV.bool v, int u8 192, int u8 168, int u8 0, int u8 1, int u8 0, int u8 0, int u8 0, int u8 0, int u8 0, int u8 0, int u8 0, int u8 0, int u8 0, int u8 0, int u8 0, int u8 0, int u16 (kport n), int u16 80] 37 Md.own none, cells [AV.bool v, int u8 172, int u8 16, int u8 0, int u8 (db3 m), int u8 0, int u8 0, int u8 0, int u8 0, int u8 0, int u8 0, int u8 0, int u8 0, int u8 0, int u8 0, int u8 0, int u8 0, int u16 (dport m)] 18 Md.own none, cells (bys S) 1 Md.own none, cells (bys S1) 1 Md.own none, cells (bys S2) 1 Md.own none]
theorem nfSegBackRT2 (v : Bool) (n m e f g N i : Int) (d S S1 S2 : List UInt8) :
 qround Try.prog (tSB S S1 S2 (.tup [.agg [.int .u16 e, .int .u16 f, .int .u8 g], .int .i64 0])) 100 4 [(68, .bool true), (79, .bool true), (83, .bool false), (96, .bool false), (104, .bool false)] noT (loopIn (bodyOf Try.prog 6) 0) mSB [.ptr (some (1, 0)), .ptr (some (2, 0)), slB 3 S, slB 4 S1, slB 5 S2, .int .i64 16, .int .i64 i] (hSegBackT6 v n m e f g N d S S1 S2) =
 (if decide (i < (S.length : Int)) = true then
 (if 0 ≤ i ∧ i < (S.length : Int) then
 (if isIntV u8 (bys S)[0 + i.toNat * 1]? = true then
 (if 0 ≤ i ∧ i < (S2.length : Int) then
 (if isIntV u8 (bys S2)[0 + i.toNat * 1]? = true then
 (if (intV (bys S)[0 + i.toNat * 1]? != intV (bys S2)[0 + i.toNat * 1]?) = true then
 (if (i != 16) = false then
 (if 0 ≤ i ∧ i < (S.length : Int) then
 (if isIntV u8 (bys S)[0 + i.toNat * 1]? = true then
 (if ((intV (bys S)[0 + i.toNat * 1]?).tmod 255 != 0) = false then
 (if 0 ≤ i ∧ i < (S2.length : Int) then
 (if isIntV u8 (bys S2)[0 + i.toNat * 1]? = true then
 (if ((intV (bys S2)[0 + i.toNat * 1]?).tmod 255 != 0) = false then
 some ((AEx.norm, [AV.ptr (some (1, 0)), AV.ptr (some (2, 0)), AV.sl (some (3, 0)) S.length 0 false, AV.sl (some (4, 0)) S1.length 0 false, AV.sl (some (5, 0)) S2.length 0 false, int i64 16, int i64 (i64.wrap (i + 1))], (hSegBackRT20 v n m e f g N i d S S1 S2)))
 else none) else none) else none) else none) else none) else none) else none) else none) else none) else none) else none) else none) else none) := by
  kernel_rfl

noncomputable def hSegBackRT30 (v : Bool) (n m e f g N i : Int) (d S S1 S2 : List UInt8) : AHeap := [cells (bys d) 1 Md.far none, cells [int u8 6, AV.bool v, int u8 10, int u8 (kb1 n), int u8 (kb2 n), int u8 (kb3 n), int u8 0, int u8 0, int u8 0, int u8 0, int u8 0, int u8 0, int u8 0, int u8 0, int u8 0, int u8 0, int u8 0, int u8 0, AV.bool v, int u8 192, int u8 168, int u8 0, int u8 1, int u8 0, int u8 0, int u8 0, int u8 0, int u8 0, int u8 0, int u8 0, int u8 0, int u8 0, int u8 0, int u8 0, int u8 0, int u16 (kport n), int u16 80] 37 Md.own none, cells [AV.bool v, int u8 172, int u8 16, int u8 0, int u8 (db3 m), int u8 0, int u8 0, int u8 0, int u8 0, int u8 0, int u8 0, int u8 0, int u8 0, int u8 0, int u8 0, int u8 0, int u8 0, int u16 (dport m)] 18 Md.own none, cells (bys S) 1 Md.own none, cells (bys S1) 1 Md.own none, cells (bys S2) 1 Md.own none]
theorem nfSegBackRT3 (v : Bool) (n m e f g N i : Int) (d S S1 S2 : List UInt8) :
 qround Try.prog (tSB S S1 S2 (.tup [.agg [.int .u16 e, .int .u16 f, .int .u8 g], .int .i64 0])) 100 4 [(68, .bool true), (79, .bool true), (83, .bool true), (88, .bool false), (96, .bool false), (104, .bool false)] noT (loopIn (bodyOf Try.prog 6) 0) mSB [.ptr (some (1, 0)), .ptr (some (2, 0)), slB 3 S, slB 4 S1, slB 5 S2, .int .i64 16, .int .i64 i] (hSegBackT6 v n m e f g N d S S1 S2) =
 (if decide (i < (S.length : Int)) = true then
 (if 0 ≤ i ∧ i < (S.length : Int) then
 (if isIntV u8 (bys S)[0 + i.toNat * 1]? = true then
 (if 0 ≤ i ∧ i < (S2.length : Int) then
 (if isIntV u8 (bys S2)[0 + i.toNat * 1]? = true then
 (if (intV (bys S)[0 + i.toNat * 1]? != intV (bys S2)[0 + i.toNat * 1]?) = true then
 (if (i != 16) = true then
 (if (i != 17) = false then
 (if 0 ≤ i ∧ i < (S.length : Int) then
 (if isIntV u8 (bys S)[0 + i.toNat * 1]? = true then
 (if ((intV (bys S)[0 + i.toNat * 1]?).tmod 255 != 0) = false then
 (if 0 ≤ i ∧ i < (S2.length : Int) then
 (if isIntV u8 (bys S2)[0 + i.toNat * 1]? = true then
 (if ((intV (bys S2)[0 + i.toNat * 1]?).tmod 255 != 0) = false then
 some ((AEx.norm, [AV.ptr (some (1, 0)), AV.ptr (some (2, 0)), AV.sl (some (3, 0)) S.length 0 false, AV.sl (some (4, 0)) S1.length 0 false, AV.sl (some (5, 0)) S2.length 0 false, int i64 16, int i64 (i64.wrap (i + 1))], (hSegBackRT30 v n m e f g N i d S S1 S2)))
 else none) else none) else none) else none) else none) else none) else none) else none) else none) else none) else none) else none) else none) else none) := by
  kernel_rfl

noncomputable def hSegBackRUE0 (v : Bool) (n m e f g N i : Int) (d S S1 S2 : List UInt8) : AHeap := [cells (bys d) 1 Md.far none, cells [int u8 17, AV.bool v, int u8 10, int u8 (kb1 n), int u8 (kb2 n), int u8 (kb3 n), int u8 0, int u8 0, int u8 0, int u8 0, int u8 0, int u8 0, int u8 0, int u8 0, int u8 0, int u8 0, int u8 0, int u8 0, AV.bool v, int u8 192, int u8 168, int u8 0, int u8 1, int u8 0, int u8 0, int u8 0, int u8 0, int u8 0, int u8 0, int u8 0, int u8 0, int u8 0, int u8 0, int u8 0, int u8 0, int u16 (kport n), int u16 80] 37 Md.own none, cells [AV.bool v, int u8 172, int u8 16, int u8 0, int u8 (db3 m), int u8 0, int u8 0, int u8 0, int u8 0, int u8 0, int u8 0, int u8 0, int u8 0, int u8 0, int u8 0, int u8 0, int u8 0, int u16 (dport m)] 18 Md.own none, cells (bys S) 1 Md.own none, cells (bys S1) 1 Md.own none, cells (bys S2) 1 Md.own none]
theorem nfSegBackRUE (v : Bool) (n m e f g N i : Int) (d S S1 S2 : List UInt8) :
 qround Try.prog (tSB S S1 S2 (.tup [.agg [.int .u16 e, .int .u16 f, .int .u8 g], .int .i64 0])) 100 4 [(68, .bool false)] noT (loopIn (bodyOf Try.prog 6) 0) mSB [.ptr (some (1, 0)), .ptr (some (2, 0)), slB 3 S, slB 4 S1, slB 5 S2, .int .i64 6, .int .i64 i] (hSegBackU6 v n m e f g N d S S1 S2) =
 (if decide (i < (S.length : Int)) = false then
 some ((AEx.exit 0, [AV.ptr (some (1, 0)), AV.ptr (some (2, 0)), AV.sl (some (3, 0)) S.length 0 false, AV.sl (some (4, 0)) S1.length 0 false, AV.sl (some (5, 0)) S2.length 0 false, int i64 6, int i64 i], (hSegBackRUE0 v n m e f g N i d S S1 S2)))
 else none) := by
  kernel_rfl

noncomputable def hSegBackRU10 (v : Bool) (n m e f g N i : Int) (d S S1 S2 : List UInt8) : AHeap := [cells (bys d) 1 Md.far none, cells [int u8 17, AV.bool v, int u8 10, int u8 (kb1 n), int u8 (kb2 n), int u8 (kb3 n), int u8 0, int u8 0, int u8 0, int u8 0, int u8 0, int u8 0, int u8 0, int u8 0, int u8 0, int u8 0, int u8 0, int u8 0, AV.bool v, int u8 192, int u8 168, int u8 0, int u8 1, int u8 0, int u8 0, int u8 0, int u8 0, int u8 0, int u8 0, int u8 0, int u8 0, int u8 0, int u8 0, int u8 0, int u8 0, int u16 (kport n), int u16 80] 37 Md.own none, cells [AV.bool v, int u8 172, int u8 16, int u8 0, int u8 (db3 m), int u8 0, int u8 0, int u8 0, int u8 0, int u8 0, int u8 0, int u8 0, int u8 0, int u8 0, int u8 0, int u8 0, int u8 0, int u16 (dport m)] 18 Md.own none, cells (bys S) 1 Md.own none, cells (bys S1) 1 Md.own none, cells (bys S2) 1 Md.own none]
theorem nfSegBackRU1 (v : Bool) (n m e f g N i : Int) (d S S1 S2 : List UInt8) :
 qround Try.prog (tSB S S1 S2 (.tup [.agg [.int .u16 e, .int .u16 f, .int .u8 g], .int .i64 0])) 100 4 [(68, .bool true), (79, .bool false)] noT (loopIn (bodyOf Try.prog 6) 0) mSB [.ptr (some (1, 0)), .ptr (some (2, 0)), slB 3 S, slB 4 S1, slB 5 S2, .int .i64 6, .int .i64 i] (hSegBackU6 v n m e f g N d S S1 S2) =
 (if decide (i < (S.length : Int)) = true then
 (if 0 ≤ i ∧ i < (S.length : Int) then
 (if isIntV u8 (bys S)[0 + i.toNat * 1]? = true then
 (if 0 ≤ i ∧ i < (S2.length : Int) then
 (if isIntV u8 (bys S2)[0 + i.toNat * 1]? = true then
 (if (intV (bys S)[0 + i.toNat * 1]? != intV (bys S2)[0 + i.toNat * 1]?) = false then
 some ((AEx.norm, [AV.ptr (some (1, 0)), AV.ptr (some (2, 0)), AV.sl (some (3, 0)) S.length 0 false, AV.sl (some (4, 0)) S1.length 0 false, AV.sl (some (5, 0)) S2.length 0 false, int i64 6, int i64 (i64.wrap (i + 1))], (hSegBackRU10 v n m e f g N i d S S1 S2)))
 else none) else none) else none) else none) else none) else none) := by
  kernel_rfl

noncomputable def hSegBackRU20 (v : Bool) (n m e f g N i : Int) (d S S1 S2 : List UInt8) : AHeap := [cells (bys d) 1 Md.far none, cells [int u8 17, AV.bool v, int u8 10, int u8 (kb1 n), int u8 (kb2 n), int u8 (kb3 n), int u8 0, int u8 0, int u8 0, int u8 0, int u8 0, int u8 0, int u8 0, int u8 0, int u8 0, int u8 0, int u8 0, int u8 0, AV.bool v, int u8 192, int u8 168, int u8 0, int u8 1, int u8 0, int u8 0, int u8 0, int u8 0, int u8 0, int u8 0, int u8 0, int u8 0, int u8 0, int u8 0, int u8 0, int u8 0, int u16 (kport n), int u16 80] 37 Md.own none, cells [AV.bool v, int u8 172, int u8 16, int u8 0, int u8 (db3 m), int u8 0, int u8 0, int u8 0, int u8 0, int u8 0, int u8 0, int u8 0, int u8 0, int u8 0, int u8 0, int u8 0, int u8 0, int u16 (dport m)] 18 Md.own none, cells (bys S) 1 Md.own none, cells (bys S1) 1 Md.own none, cells (bys S2) 1 Md.own none]
theorem nfSegBackRU2 (v : Bool) (n m e f g N i : Int) (d S S1 S2 : List UInt8) :
 qround Try.prog (tSB S S1 S2 (.tup [.agg [.int .u16 e, .int .u16 f, .int .u8 g], .int .i64 0])) 100 4 [(68, .bool true), (79, .bool true), (83, .bool false), (96, .bool false), (104, .bool false)] noT (loopIn (bodyOf Try.prog 6) 0) mSB [.ptr (some (1, 0)), .ptr (some (2, 0)), slB 3 S, slB 4 S1, slB 5 S2, .int .i64 6, .int .i64 i] (hSegBackU6 v n m e f g N d S S1 S2) =
 (if decide (i < (S.length : Int)) = true then
 (if 0 ≤ i ∧ i < (S.length : Int) then
 (if isIntV u8 (bys S)[0 + i.toNat * 1]? = true then
 (if 0 ≤ i ∧ i < (S2.length : Int) then
 (if isIntV u8 (bys S2)[0 + i.toNat * 1]? = true then
 (if (intV (bys S)[0 + i.toNat * 1]? != intV (bys S2)[0 + i.toNat * 1]?) = true then
 (if (i != 6) = false then
 (if 0 ≤ i ∧ i < (S.length : Int) then
 (if isIntV u8 (bys S)[0 + i.toNat * 1]? = true then
 (if ((intV (bys S)[0 + i.toNat * 1]?).tmod 255 != 0) = false then
 (if 0 ≤ i ∧ i < (S2.length : Int) then
 (if isIntV u8 (bys S2)[0 + i.toNat * 1]? = true then
 (if ((intV (bys S2)[0 + i.toNat * 1]?).tmod 255 != 0) = false then
 some ((AEx.norm, [AV.ptr (some (1, 0)), AV.ptr (some (2, 0)), AV.sl (some (3, 0)) S.length 0 false, AV.sl (some (4, 0)) S1.length 0 false, AV.sl (some (5, 0)) S2.length 0 false, int i64 6, int i64 (i64.wrap (i + 1))], (hSegBackRU20 v n m e f g N i d S S1 S2)))
 else none) else none) else none) else none) else none) else none) else none) else none) else none) else none) else none) else none) else none) := by
  kernel_rfl

noncomputable def hSegBackRU30 (v : Bool) (n m e f g N i : Int) (d S S1 S2 : List UInt8) : AHeap := [cells (bys d) 1 Md.far none, cells [int u8 17, AV.bool v, int u8 10, int u8 (kb1 n), int u8 (kb2 n), int u8 (kb3 n), int u8 0, int u8 0, int u8 0, int u8 0, int u8 0, int u8 0, int u8 0, int u8 0, int u8 0, int u8 0, int u8 0, int u8 0, AV.bool v, int u8 192, int u8 168, int u8 0, int u8 1, int u8 0, int u8 0, int u8 0, int u8 0, int u8 0, int u8 0, int u8 0, int u8 0, int u8 0, int u8 0, int u8 0, int u8 0, int u16 (kport n), int u16 80] 37 Md.own none, cells [AV.bool v, int u8 172, int u8 16, int u8 0, int u8 (db3 m), int u8 0, int u8 0, int u8 0, int u8 0, int u8 0, int u8 0, int u8 0, int u8 0, int u8 0, int u8 0, int u8 0, int u8 0, int u16 (dport m)] 18 Md.own none, cells (bys S) 1 Md.own none, cells (bys S1) 1 Md.own none, cells (bys S2) 1 Md.own none]
theorem nfSegBackRU3 (v : Bool) (n m e f g N i : Int) (d S S1 S2 : List UInt8) :
 qround Try.prog (tSB S S1 S2 (.tup [.agg [.int .u16 e, .int .u16 f, .int .u8 g], .int .i64 0])) 100 4 [(68, .bool true), (79, .bool true), (83, .bool true), (88, .bool false), (96, .bool false), (104, .bool false)] noT (loopIn (bodyOf Try.prog 6) 0) mSB [.ptr (some (1, 0)), .ptr (some (2, 0)), slB 3 S, slB 4 S1, slB 5 S2, .int .i64 6, .int .i64 i] (hSegBackU6 v n m e f g N d S S1 S2) =
 (if decide (i < (S.length : Int)) = true then
 (if 0 ≤ i ∧ i < (S.length : Int) then
 (if isIntV u8 (bys S)[0 + i.toNat * 1]? = true then
 (if 0 ≤ i ∧ i < (S2.length : Int) then
 (if isIntV u8 (bys S2)[0 + i.toNat * 1]? = true then
 (if (intV (bys S)[0 + i.toNat * 1]? != intV (bys S2)[0 + i.toNat * 1]?) = true then
 (if (i != 6) = true then
 (if (i != 7) = false then
 (if 0 ≤ i ∧ i < (S.length : Int) then
 (if isIntV u8 (bys S)[0 + i.toNat * 1]? = true then
 (if ((intV (bys S)[0 + i.toNat * 1]?).tmod 255 != 0) = false then
 (if 0 ≤ i ∧ i < (S2.length : Int) then
 (if isIntV u8 (bys S2)[0 + i.toNat * 1]? = true then
 (if ((intV (bys S2)[0 + i.toNat * 1]?).tmod 255 != 0) = false then
 some ((AEx.norm, [AV.ptr (some (1, 0)), AV.ptr (some (2, 0)), AV.sl (some (3, 0)) S.length 0 false, AV.sl (some (4, 0)) S1.length 0 false, AV.sl (some (5, 0)) S2.length 0 false, int i64 6, int i64 (i64.wrap (i + 1))], (hSegBackRU30 v n m e f g N i d S S1 S2)))
 else none) else none) else none) else none) else none) else none) else none) else none) else none) else none) else none) else none) else none) else none) := by
  kernel_rfl


end Go.Proofs.Ytmlenlfhciapfaa.L
