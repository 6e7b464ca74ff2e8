/- SegGoes' loop: what the kernel makes of a round. -/
import Derived.Test.YtmlenlfhciapfaaSegGoesN
set_option autoImplicit false
set_option maxRecDepth 100000
set_option linter.unusedVariables false
set_option linter.unusedSimpArgs false
namespace Go.Proofs.Ytmlenlfhciapfaa.L
open Go Go.Abs
open Go.IntKind
open Go.Abs.AV (int)
open Go.Abs.ABlk (cells)
noncomputable def hSegGoesRT0E0 (v b : Bool) (n m a N i : Int) (d S S1 S2 : List UInt8) : AHeap := [cells (bys d) 1 Md.far none, cells [int u8 6, AV.bool v, int u8 10, int u8 (kb1 n), int u8 (kb2 n), int u8 (kb3 n), int u8 0, int u8 0, int u8 0, int u8 0, int u8 0, int u8 0, int u8 0, int u8 0, int u8 0, int u8 0, int u8 0, int u8 0, AV.bool v, int u8 192, int u8 168, int u8 0, int u8 1, int u8 0, int u8 0, int u8 0, int u8 0, int u8 0, int u8 0, int u8 0, int u8 0, int u8 0, int u8 0, int u8 0, int u8 0, int u16 (kport n), int u16 80] 37 Md.own none, cells [AV.bool v, int u8 172, int u8 16, int u8 0, int u8 (db3 m), int u8 0, int u8 0, int u8 0, int u8 0, int u8 0, int u8 0, int u8 0, int u8 0, int u8 0, int u8 0, int u8 0, int u8 0, int u16 (dport m)] 18 Md.own none, cells (bys S) 1 Md.own none, cells (bys S1) 1 Md.own none]
theorem nfSegGoesRT0E (v b : Bool) (n m a N i : Int) (d S S1 S2 : List UInt8) :
 qround Try.prog (tSGo S S1 S2) 100 4 [(84, .bool false)] noT (loopIn (bodyOf Try.prog 4) 0) mSGo [.bool false, .bool b, .int .i64 a, .ptr (some (1, 0)), .ptr (some (2, 0)), slB 3 S, slB 4 S1, .int .i64 16, .int .i64 i] (hSegGoesT04 v b n m a N d S S1 S2) =
 (if decide (i < (S.length : Int)) = false then
 some ((AEx.exit 0, [AV.bool false, AV.bool b, int i64 a, AV.ptr (some (1, 0)), AV.ptr (some (2, 0)), AV.sl (some (3, 0)) S.length 0 false, AV.sl (some (4, 0)) S1.length 0 false, int i64 16, int i64 i], (hSegGoesRT0E0 v b n m a N i d S S1 S2)))
 else none) := by
  kernel_rfl

noncomputable def hSegGoesRT010 (v b : Bool) (n m a N i : Int) (d S S1 S2 : List UInt8) : AHeap := [cells (bys d) 1 Md.far none, cells [int u8 6, AV.bool v, int u8 10, int u8 (kb1 n), int u8 (kb2 n), int u8 (kb3 n), int u8 0, int u8 0, int u8 0, int u8 0, int u8 0, int u8 0, int u8 0, int u8 0, int u8 0, int u8 0, int u8 0, int u8 0, AV.bool v, int u8 192, int u8 168, int u8 0, int u8 1, int u8 0, int u8 0, int u8 0, int u8 0, int u8 0, int u8 0, int u8 0, int u8 0, int u8 0, int u8 0, int u8 0, int u8 0, int u16 (kport n), int u16 80] 37 Md.own none, cells [AV.bool v, int u8 172, int u8 16, int u8 0, int u8 (db3 m), int u8 0, int u8 0, int u8 0, int u8 0, int u8 0, int u8 0, int u8 0, int u8 0, int u8 0, int u8 0, int u8 0, int u8 0, int u16 (dport m)] 18 Md.own none, cells (bys S) 1 Md.own none, cells (bys S1) 1 Md.own none]
theorem nfSegGoesRT01 (v b : Bool) (n m a N i : Int) (d S S1 S2 : List UInt8) :
 qround Try.prog (tSGo S S1 S2) 100 4 [(84, .bool true), (95, .bool false)] noT (loopIn (bodyOf Try.prog 4) 0) mSGo [.bool false, .bool b, .int .i64 a, .ptr (some (1, 0)), .ptr (some (2, 0)), slB 3 S, slB 4 S1, .int .i64 16, .int .i64 i] (hSegGoesT04 v b n m a N d S S1 S2) =
 (if decide (i < (S.length : Int)) = true then
 (if 0 ≤ i ∧ i < (S.length : Int) then
 (if isIntV u8 (bys S)[0 + i.toNat * 1]? = true then
 (if 0 ≤ i ∧ i < (S1.length : Int) then
 (if isIntV u8 (bys S1)[0 + i.toNat * 1]? = true then
 (if (intV (bys S)[0 + i.toNat * 1]? != intV (bys S1)[0 + i.toNat * 1]?) = false then
 some ((AEx.norm, [AV.bool false, AV.bool b, int i64 a, AV.ptr (some (1, 0)), AV.ptr (some (2, 0)), AV.sl (some (3, 0)) S.length 0 false, AV.sl (some (4, 0)) S1.length 0 false, int i64 16, int i64 (i64.wrap (i + 1))], (hSegGoesRT010 v b n m a N i d S S1 S2)))
 else none) else none) else none) else none) else none) else none) := by
  kernel_rfl

noncomputable def hSegGoesRT020 (v b : Bool) (n m a N i : Int) (d S S1 S2 : List UInt8) : AHeap := [cells (bys d) 1 Md.far none, cells [int u8 6, AV.bool v, int u8 10, int u8 (kb1 n), int u8 (kb2 n), int u8 (kb3 n), int u8 0, int u8 0, int u8 0, int u8 0, int u8 0, int u8 0, int u8 0, int u8 0, int u8 0, int u8 0, int u8 0, int u8 0, AV.bool v, int u8 192, int u8 168, int u8 0, int u8 1, int u8 0, int u8 0, int u8 0, int u8 0, int u8 0, int u8 0, int u8 0, int u8 0, int u8 0, int u8 0, int u8 0, int u8 0, int u16 (kport n), int u16 80] 37 Md.own none, cells [AV.bool v, int u8 172, int u8 16, int u8 0, int u8 (db3 m), int u8 0, int u8 0, int u8 0, int u8 0, int u8 0, int u8 0, int u8 0, int u8 0, int u8 0, int u8 0, int u8 0, int u8 0, int u16 (dport m)] 18 Md.own none, cells (bys S) 1 Md.own none, cells (bys S1) 1 Md.own none]
theorem nfSegGoesRT02 (v b : Bool) (n m a N i : Int) (d S S1 S2 : List UInt8) :
 qround Try.prog (tSGo S S1 S2) 100 4 [(84, .bool true), (95, .bool true), (98, .bool false)] noT (loopIn (bodyOf Try.prog 4) 0) mSGo [.bool false, .bool b, .int .i64 a, .ptr (some (1, 0)), .ptr (some (2, 0)), slB 3 S, slB 4 S1, .int .i64 16, .int .i64 i] (hSegGoesT04 v b n m a N d S S1 S2) =
 (if decide (i < (S.length : Int)) = true then
 (if 0 ≤ i ∧ i < (S.length : Int) then
 (if isIntV u8 (bys S)[0 + i.toNat * 1]? = true then
 (if 0 ≤ i ∧ i < (S1.length : Int) then
 (if isIntV u8 (bys S1)[0 + i.toNat * 1]? = true then
 (if (intV (bys S)[0 + i.toNat * 1]? != intV (bys S1)[0 + i.toNat * 1]?) = true then
 (if (i != 2) = false then
 some ((AEx.norm, [AV.bool false, AV.bool b, int i64 a, AV.ptr (some (1, 0)), AV.ptr (some (2, 0)), AV.sl (some (3, 0)) S.length 0 false, AV.sl (some (4, 0)) S1.length 0 false, int i64 16, int i64 (i64.wrap (i + 1))], (hSegGoesRT020 v b n m a N i d S S1 S2)))
 else none) else none) else none) else none) else none) else none) else none) := by
  kernel_rfl

noncomputable def hSegGoesRT030 (v b : Bool) (n m a N i : Int) (d S S1 S2 : List UInt8) : AHeap := [cells (bys d) 1 Md.far none, cells [int u8 6, AV.bool v, int u8 10, int u8 (kb1 n), int u8 (kb2 n), int u8 (kb3 n), int u8 0, int u8 0, int u8 0, int u8 0, int u8 0, int u8 0, int u8 0, int u8 0, int u8 0, int u8 0, int u8 0, int u8 0, AV.bool v, int u8 192, int u8 168, int u8 0, int u8 1, int u8 0, int u8 0, int u8 0, int u8 0, int u8 0, int u8 0, int u8 0, int u8 0, int u8 0, int u8 0, int u8 0, int u8 0, int u16 (kport n), int u16 80] 37 Md.own none, cells [AV.bool v, int u8 172, int u8 16, int u8 0, int u8 (db3 m), int u8 0, int u8 0, int u8 0, int u8 0, int u8 0, int u8 0, int u8 0, int u8 0, int u8 0, int u8 0, int u8 0, int u8 0, int u16 (dport m)] 18 Md.own none, cells (bys S) 1 Md.own none, cells (bys S1) 1 Md.own none]
theorem nfSegGoesRT03 (v b : Bool) (n m a N i : Int) (d S S1 S2 : List UInt8) :
 qround Try.prog (tSGo S S1 S2) 100 4 [(84, .bool true), (95, .bool true), (98, .bool true), (102, .bool false)] noT (loopIn (bodyOf Try.prog 4) 0) mSGo [.bool false, .bool b, .int .i64 a, .ptr (some (1, 0)), .ptr (some (2, 0)), slB 3 S, slB 4 S1, .int .i64 16, .int .i64 i] (hSegGoesT04 v b n m a N d S S1 S2) =
 (if decide (i < (S.length : Int)) = true then
 (if 0 ≤ i ∧ i < (S.length : Int) then
 (if isIntV u8 (bys S)[0 + i.toNat * 1]? = true then
 (if 0 ≤ i ∧ i < (S1.length : Int) then
 (if isIntV u8 (bys S1)[0 + i.toNat * 1]? = true then
 (if (intV (bys S)[0 + i.toNat * 1]? != intV (bys S1)[0 + i.toNat * 1]?) = true then
 (if (i != 2) = true then
 (if (i != 3) = false then
 some ((AEx.norm, [AV.bool false, AV.bool b, int i64 a, AV.ptr (some (1, 0)), AV.ptr (some (2, 0)), AV.sl (some (3, 0)) S.length 0 false, AV.sl (some (4, 0)) S1.length 0 false, int i64 16, int i64 (i64.wrap (i + 1))], (hSegGoesRT030 v b n m a N i d S S1 S2)))
 else none) else none) else none) else none) else none) else none) else none) else none) := by
  kernel_rfl

noncomputable def hSegGoesRT040 (v b : Bool) (n m a N i : Int) (d S S1 S2 : List UInt8) : AHeap := [cells (bys d) 1 Md.far none, cells [int u8 6, AV.bool v, int u8 10, int u8 (kb1 n), int u8 (kb2 n), int u8 (kb3 n), int u8 0, int u8 0, int u8 0, int u8 0, int u8 0, int u8 0, int u8 0, int u8 0, int u8 0, int u8 0, int u8 0, int u8 0, AV.bool v, int u8 192, int u8 168, int u8 0, int u8 1, int u8 0, int u8 0, int u8 0, int u8 0, int u8 0, int u8 0, int u8 0, int u8 0, int u8 0, int u8 0, int u8 0, int u8 0, int u16 (kport n), int u16 80] 37 Md.own none, cells [AV.bool v, int u8 172, int u8 16, int u8 0, int u8 (db3 m), int u8 0, int u8 0, int u8 0, int u8 0, int u8 0, int u8 0, int u8 0, int u8 0, int u8 0, int u8 0, int u8 0, int u8 0, int u16 (dport m)] 18 Md.own none, cells (bys S) 1 Md.own none, cells (bys S1) 1 Md.own none]
theorem nfSegGoesRT04 (v b : Bool) (n m a N i : Int) (d S S1 S2 : List UInt8) :
 qround Try.prog (tSGo S S1 S2) 100 4 [(84, .bool true), (95, .bool true), (98, .bool true), (102, .bool true), (107, .bool false)] noT (loopIn (bodyOf Try.prog 4) 0) mSGo [.bool false, .bool b, .int .i64 a, .ptr (some (1, 0)), .ptr (some (2, 0)), slB 3 S, slB 4 S1, .int .i64 16, .int .i64 i] (hSegGoesT04 v b n m a N d S S1 S2) =
 (if decide (i < (S.length : Int)) = true then
 (if 0 ≤ i ∧ i < (S.length : Int) then
 (if isIntV u8 (bys S)[0 + i.toNat * 1]? = true then
 (if 0 ≤ i ∧ i < (S1.length : Int) then
 (if isIntV u8 (bys S1)[0 + i.toNat * 1]? = true then
 (if (intV (bys S)[0 + i.toNat * 1]? != intV (bys S1)[0 + i.toNat * 1]?) = true then
 (if (i != 2) = true then
 (if (i != 3) = true then
 (if (i != 16) = false then
 some ((AEx.norm, [AV.bool false, AV.bool b, int i64 a, AV.ptr (some (1, 0)), AV.ptr (some (2, 0)), AV.sl (some (3, 0)) S.length 0 false, AV.sl (some (4, 0)) S1.length 0 false, int i64 16, int i64 (i64.wrap (i + 1))], (hSegGoesRT040 v b n m a N i d S S1 S2)))
 else none) else none) else none) else none) else none) else none) else none) else none) else none) := by
  kernel_rfl

noncomputable def hSegGoesRT050 (v b : Bool) (n m a N i : Int) (d S S1 S2 : List UInt8) : AHeap := [cells (bys d) 1 Md.far none, cells [int u8 6, AV.bool v, int u8 10, int u8 (kb1 n), int u8 (kb2 n), int u8 (kb3 n), int u8 0, int u8 0, int u8 0, int u8 0, int u8 0, int u8 0, int u8 0, int u8 0, int u8 0, int u8 0, int u8 0, int u8 0, AV.bool v, int u8 192, int u8 168, int u8 0, int u8 1, int u8 0, int u8 0, int u8 0, int u8 0, int u8 0, int u8 0, int u8 0, int u8 0, int u8 0, int u8 0, int u8 0, int u8 0, int u16 (kport n), int u16 80] 37 Md.own none, cells [AV.bool v, int u8 172, int u8 16, int u8 0, int u8 (db3 m), int u8 0, int u8 0, int u8 0, int u8 0, int u8 0, int u8 0, int u8 0, int u8 0, int u8 0, int u8 0, int u8 0, int u8 0, int u16 (dport m)] 18 Md.own none, cells (bys S) 1 Md.own none, cells (bys S1) 1 Md.own none]
theorem nfSegGoesRT05 (v b : Bool) (n m a N i : Int) (d S S1 S2 : List UInt8) :
 qround Try.prog (tSGo S S1 S2) 100 4 [(84, .bool true), (95, .bool true), (98, .bool true), (102, .bool true), (107, .bool true), (113, .bool false)] noT (loopIn (bodyOf Try.prog 4) 0) mSGo [.bool false, .bool b, .int .i64 a, .ptr (some (1, 0)), .ptr (some (2, 0)), slB 3 S, slB 4 S1, .int .i64 16, .int .i64 i] (hSegGoesT04 v b n m a N d S S1 S2) =
 (if decide (i < (S.length : Int)) = true then
 (if 0 ≤ i ∧ i < (S.length : Int) then
 (if isIntV u8 (bys S)[0 + i.toNat * 1]? = true then
 (if 0 ≤ i ∧ i < (S1.length : Int) then
 (if isIntV u8 (bys S1)[0 + i.toNat * 1]? = true then
 (if (intV (bys S)[0 + i.toNat * 1]? != intV (bys S1)[0 + i.toNat * 1]?) = true then
 (if (i != 2) = true then
 (if (i != 3) = true then
 (if (i != 16) = true then
 (if (i != 17) = false then
 some ((AEx.norm, [AV.bool false, AV.bool b, int i64 a, AV.ptr (some (1, 0)), AV.ptr (some (2, 0)), AV.sl (some (3, 0)) S.length 0 false, AV.sl (some (4, 0)) S1.length 0 false, int i64 16, int i64 (i64.wrap (i + 1))], (hSegGoesRT050 v b n m a N i d S S1 S2)))
 else none) else none) else none) else none) else none) else none) else none) else none) else none) else none) := by
  kernel_rfl

noncomputable def hSegGoesRU0E0 (v b : Bool) (n m a N i : Int) (d S S1 S2 : List UInt8) : AHeap := [cells (bys d) 1 Md.far none, cells [int u8 17, AV.bool v, int u8 10, int u8 (kb1 n), int u8 (kb2 n), int u8 (kb3 n), int u8 0, int u8 0, int u8 0, int u8 0, int u8 0, int u8 0, int u8 0, int u8 0, int u8 0, int u8 0, int u8 0, int u8 0, AV.bool v, int u8 192, int u8 168, int u8 0, int u8 1, int u8 0, int u8 0, int u8 0, int u8 0, int u8 0, int u8 0, int u8 0, int u8 0, int u8 0, int u8 0, int u8 0, int u8 0, int u16 (kport n), int u16 80] 37 Md.own none, cells [AV.bool v, int u8 172, int u8 16, int u8 0, int u8 (db3 m), int u8 0, int u8 0, int u8 0, int u8 0, int u8 0, int u8 0, int u8 0, int u8 0, int u8 0, int u8 0, int u8 0, int u8 0, int u16 (dport m)] 18 Md.own none, cells (bys S) 1 Md.own none, cells (bys S1) 1 Md.own none]
theorem nfSegGoesRU0E (v b : Bool) (n m a N i : Int) (d S S1 S2 : List UInt8) :
 qround Try.prog (tSGo S S1 S2) 100 4 [(84, .bool false)] noT (loopIn (bodyOf Try.prog 4) 0) mSGo [.bool true, .bool false, .int .i64 a, .ptr (some (1, 0)), .ptr (some (2, 0)), slB 3 S, slB 4 S1, .int .i64 6, .int .i64 i] (hSegGoesU04 v b n m a N d S S1 S2) =
 (if decide (i < (S.length : Int)) = false then
 some ((AEx.exit 0, [AV.bool true, AV.bool false, int i64 a, AV.ptr (some (1, 0)), AV.ptr (some (2, 0)), AV.sl (some (3, 0)) S.length 0 false, AV.sl (some (4, 0)) S1.length 0 false, int i64 6, int i64 i], (hSegGoesRU0E0 v b n m a N i d S S1 S2)))
 else none) := by
  kernel_rfl

noncomputable def hSegGoesRU010 (v b : Bool) (n m a N i : Int) (d S S1 S2 : List UInt8) : AHeap := [cells (bys d) 1 Md.far none, cells [int u8 17, AV.bool v, int u8 10, int u8 (kb1 n), int u8 (kb2 n), int u8 (kb3 n), int u8 0, int u8 0, int u8 0, int u8 0, int u8 0, int u8 0, int u8 0, int u8 0, int u8 0, int u8 0, int u8 0, int u8 0, AV.bool v, int u8 192, int u8 168, int u8 0, int u8 1, int u8 0, int u8 0, int u8 0, int u8 0, int u8 0, int u8 0, int u8 0, int u8 0, int u8 0, int u8 0, int u8 0, int u8 0, int u16 (kport n), int u16 80] 37 Md.own none, cells [AV.bool v, int u8 172, int u8 16, int u8 0, int u8 (db3 m), int u8 0, int u8 0, int u8 0, int u8 0, int u8 0, int u8 0, int u8 0, int u8 0, int u8 0, int u8 0, int u8 0, int u8 0, int u16 (dport m)] 18 Md.own none, cells (bys S) 1 Md.own none, cells (bys S1) 1 Md.own none]
theorem nfSegGoesRU01 (v b : Bool) (n m a N i : Int) (d S S1 S2 : List UInt8) :
 qround Try.prog (tSGo S S1 S2) 100 4 [(84, .bool true), (95, .bool false)] noT (loopIn (bodyOf Try.prog 4) 0) mSGo [.bool true, .bool false, .int .i64 a, .ptr (some (1, 0)), .ptr (some (2, 0)), slB 3 S, slB 4 S1, .int .i64 6, .int .i64 i] (hSegGoesU04 v b n m a N d S S1 S2) =
 (if decide (i < (S.length : Int)) = true then
 (if 0 ≤ i ∧ i < (S.length : Int) then
 (if isIntV u8 (bys S)[0 + i.toNat * 1]? = true then
 (if 0 ≤ i ∧ i < (S1.length : Int) then
 (if isIntV u8 (bys S1)[0 + i.toNat * 1]? = true then
 (if (intV (bys S)[0 + i.toNat * 1]? != intV (bys S1)[0 + i.toNat * 1]?) = false then
 some ((AEx.norm, [AV.bool true, AV.bool false, int i64 a, AV.ptr (some (1, 0)), AV.ptr (some (2, 0)), AV.sl (some (3, 0)) S.length 0 false, AV.sl (some (4, 0)) S1.length 0 false, int i64 6, int i64 (i64.wrap (i + 1))], (hSegGoesRU010 v b n m a N i d S S1 S2)))
 else none) else none) else none) else none) else none) else none) := by
  kernel_rfl

noncomputable def hSegGoesRU020 (v b : Bool) (n m a N i : Int) (d S S1 S2 : List UInt8) : AHeap := [cells (bys d) 1 Md.far none, cells [int u8 17, AV.bool v, int u8 10, int u8 (kb1 n), int u8 (kb2 n), int u8 (kb3 n), int u8 0, int u8 0, int u8 0, int u8 0, int u8 0, int u8 0, int u8 0, int u8 0, int u8 0, int u8 0, int u8 0, int u8 0, AV.bool v, int u8 192, int u8 168, int u8 0, int u8 1, int u8 0, int u8 0, int u8 0, int u8 0, int u8 0, int u8 0, int u8 0, int u8 0, int u8 0, int u8 0, int u8 0, int u8 0, int u16 (kport n), int u16 80] 37 Md.own none, cells [AV.bool v, int u8 172, int u8 16, int u8 0, int u8 (db3 m), int u8 0, int u8 0, int u8 0, int u8 0, int u8 0, int u8 0, int u8 0, int u8 0, int u8 0, int u8 0, int u8 0, int u8 0, int u16 (dport m)] 18 Md.own none, cells (bys S) 1 Md.own none, cells (bys S1) 1 Md.own none]
theorem nfSegGoesRU02 (v b : Bool) (n m a N i : Int) (d S S1 S2 : List UInt8) :
 qround Try.prog (tSGo S S1 S2) 100 4 [(84, .bool true), (95, .bool true), (98, .bool false)] noT (loopIn (bodyOf Try.prog 4) 0) mSGo [.bool true, .bool false, .int .i64 a, .ptr (some (1, 0)), .ptr (some (2, 0)), slB 3 S, slB 4 S1, .int .i64 6, .int .i64 i] (hSegGoesU04 v b n m a N d S S1 S2) =
 (if decide (i < (S.length : Int)) = true then
 (if 0 ≤ i ∧ i < (S.length : Int) then
 (if isIntV u8 (bys S)[0 + i.toNat * 1]? = true then
 (if 0 ≤ i ∧ i < (S1.length : Int) then
 (if isIntV u8 (bys S1)[0 + i.toNat * 1]? = true then
 (if (intV (bys S)[0 + i.toNat * 1]? != intV (bys S1)[0 + i.toNat * 1]?) = true then
 (if (i != 2) = false then
 some ((AEx.norm, [AV.bool true, AV.bool false, int i64 a, AV.ptr (some (1, 0)), AV.ptr (some (2, 0)), AV.sl (some (3, 0)) S.length 0 false, AV.sl (some (4, 0)) S1.length 0 false, int i64 6, int i64 (i64.wrap (i + 1))], (hSegGoesRU020 v b n m a N i d S S1 S2)))
 else none) else none) else none) else none) else none) else none) else none) := by
  kernel_rfl

noncomputable def hSegGoesRU030 (v b : Bool) (n m a N i : Int) (d S S1 S2 : List UInt8) : AHeap := [cells (bys d) 1 Md.far none, cells [int u8 17, AV.bool v, int u8 10, int u8 (kb1 n), int u8 (kb2 n), int u8 (kb3 n), int u8 0, int u8 0, int u8 0, int u8 0, int u8 0, int u8 0, int u8 0, int u8 0, int u8 0, int u8 0, int u8 0, int u8 0, AV.bool v, int u8 192, int u8 168, int u8 0, int u8 1, int u8 0, int u8 0, int u8 0, int u8 0, int u8 0, int u8 0, int u8 0, int u8 0, int u8 0, int u8 0, int u8 0, int u8 0, int u16 (kport n), int u16 80] 37 Md.own none, cells [AV.bool v, int u8 172, int u8 16, int u8 0, int u8 (db3 m), int u8 0, int u8 0, int u8 0, int u8 0, int u8 0, int u8 0, int u8 0, int u8 0, int u8 0, int u8 0, int u8 0, int u8 0, int u16 (dport m)] 18 Md.own none, cells (bys S) 1 Md.own none, cells (bys S1) 1 Md.own none]
theorem nfSegGoesRU03 (v b : Bool) (n m a N i : Int) (d S S1 S2 : List UInt8) :
 qround Try.prog (tSGo S S1 S2) 100 4 [(84, .bool true), (95, .bool true), (98, .bool true), (102, .bool false)] noT (loopIn (bodyOf Try.prog 4) 0) mSGo [.bool true, .bool false, .int .i64 a, .ptr (some (1, 0)), .ptr (some (2, 0)), slB 3 S, slB 4 S1, .int .i64 6, .int .i64 i] (hSegGoesU04 v b n m a N d S S1 S2) =
 (if decide (i < (S.length : Int)) = true then
 (if 0 ≤ i ∧ i < (S.length : Int) then
 (if isIntV u8 (bys S)[0 + i.toNat * 1]? = true then
 (if 0 ≤ i ∧ i < (S1.length : Int) then
 (if isIntV u8 (bys S1)[0 + i.toNat * 1]? = true then
 (if (intV (bys S)[0 + i.toNat * 1]? != intV (bys S1)[0 + i.toNat * 1]?) = true then
 (if (i != 2) = true then
 (if (i != 3) = false then
 some ((AEx.norm, [AV.bool true, AV.bool false, int i64 a, AV.ptr (some (1, 0)), AV.ptr (some (2, 0)), AV.sl (some (3, 0)) S.length 0 false, AV.sl (some (4, 0)) S1.length 0 false, int i64 6, int i64 (i64.wrap (i + 1))], (hSegGoesRU030 v b n m a N i d S S1 S2)))
 else none) else none) else none) else none) else none) else none) else none) else none) := by
  kernel_rfl

noncomputable def hSegGoesRU040 (v b : Bool) (n m a N i : Int) (d S S1 S2 : List UInt8) : AHeap := [cells (bys d) 1 Md.far none, cells [int u8 17, AV.bool v, int u8 10, int u8 (kb1 n), int u8 (kb2 n), int u8 (kb3 n), int u8 0, int u8 0, int u8 0, int u8 0, int u8 0, int u8 0, int u8 0, int u8 0, int u8 0, int u8 0, int u8 0, int u8 0, AV.bool v, int u8 192, int u8 168, int u8 0, int u8 1, int u8 0, int u8 0, int u8 0, int u8 0, int u8 0, int u8 0, int u8 0, int u8 0, int u8 0, int u8 0, int u8 0, int u8 0, int u16 (kport n), int u16 80] 37 Md.own none, cells [AV.bool v, int u8 172, int u8 16, int u8 0, int u8 (db3 m), int u8 0, int u8 0, int u8 0, int u8 0, int u8 0, int u8 0, int u8 0, int u8 0, int u8 0, int u8 0, int u8 0, int u8 0, int u16 (dport m)] 18 Md.own none, cells (bys S) 1 Md.own none, cells (bys S1) 1 Md.own none]
theorem nfSegGoesRU04 (v b : Bool) (n m a N i : Int) (d S S1 S2 : List UInt8) :
 qround Try.prog (tSGo S S1 S2) 100 4 [(84, .bool true), (95, .bool true), (98, .bool true), (102, .bool true), (107, .bool false)] noT (loopIn (bodyOf Try.prog 4) 0) mSGo [.bool true, .bool false, .int .i64 a, .ptr (some (1, 0)), .ptr (some (2, 0)), slB 3 S, slB 4 S1, .int .i64 6, .int .i64 i] (hSegGoesU04 v b n m a N d S S1 S2) =
 (if decide (i < (S.length : Int)) = true then
 (if 0 ≤ i ∧ i < (S.length : Int) then
 (if isIntV u8 (bys S)[0 + i.toNat * 1]? = true then
 (if 0 ≤ i ∧ i < (S1.length : Int) then
 (if isIntV u8 (bys S1)[0 + i.toNat * 1]? = true then
 (if (intV (bys S)[0 + i.toNat * 1]? != intV (bys S1)[0 + i.toNat * 1]?) = true then
 (if (i != 2) = true then
 (if (i != 3) = true then
 (if (i != 6) = false then
 some ((AEx.norm, [AV.bool true, AV.bool false, int i64 a, AV.ptr (some (1, 0)), AV.ptr (some (2, 0)), AV.sl (some (3, 0)) S.length 0 false, AV.sl (some (4, 0)) S1.length 0 false, int i64 6, int i64 (i64.wrap (i + 1))], (hSegGoesRU040 v b n m a N i d S S1 S2)))
 else none) else none) else none) else none) else none) else none) else none) else none) else none) := by
  kernel_rfl

noncomputable def hSegGoesRU050 (v b : Bool) (n m a N i : Int) (d S S1 S2 : List UInt8) : AHeap := [cells (bys d) 1 Md.far none, cells [int u8 17, AV.bool v, int u8 10, int u8 (kb1 n), int u8 (kb2 n), int u8 (kb3 n), int u8 0, int u8 0, int u8 0, int u8 0, int u8 0, int u8 0, int u8 0, int u8 0, int u8 0, int u8 0, int u8 0, int u8 0, AV.bool v, int u8 192, int u8 168, int u8 0, int u8 1, int u8 0, int u8 0, int u8 0, int u8 0, int u8 0, int u8 0, int u8 0, int u8 0, int u8 0, int u8 0, int u8 0, int u8 0, int u16 (kport n), int u16 80] 37 Md.own none, cells [AV.bool v, int u8 172, int u8 16, int u8 0, int u8 (db3 m), int u8 0, int u8 0, int u8 0, int u8 0, int u8 0, int u8 0, int u8 0, int u8 0, int u8 0, int u8 0, int u8 0, int u8 0, int u16 (dport m)] 18 Md.own none, cells (bys S) 1 Md.own none, cells (bys S1) 1 Md.own none]
theorem nfSegGoesRU05 (v b : Bool) (n m a N i : Int) (d S S1 S2 : List UInt8) :
 qround Try.prog (tSGo S S1 S2) 100 4 [(84, .bool true), (95, .bool true), (98, .bool true), (102, .bool true), (107, .bool true), (113, .bool false)] noT (loopIn (bodyOf Try.prog 4) 0) mSGo [.bool true, .bool false, .int .i64 a, .ptr (some (1, 0)), .ptr (some (2, 0)), slB 3 S, slB 4 S1, .int .i64 6, .int .i64 i] (hSegGoesU04 v b n m a N d S S1 S2) =
 (if decide (i < (S.length : Int)) = true then
 (if 0 ≤ i ∧ i < (S.length : Int) then
 (if isIntV u8 (bys S)[0 + i.toNat * 1]? = true then
 (if 0 ≤ i ∧ i < (S1.length : Int) then
 (if isIntV u8 (bys S1)[0 + i.toNat * 1]? = true then
 (if (intV (bys S)[0 + i.toNat * 1]? != intV (bys S1)[0 + i.toNat * 1]?) = true then
 (if (i != 2) = true then
 (if (i != 3) = true then
 (if (i != 6) = true then
 (if (i != 7) = false then
 some ((AEx.norm, [AV.bool true, AV.bool false, int i64 a, AV.ptr (some (1, 0)), AV.ptr (some (2, 0)), AV.sl (some (3, 0)) S.length 0 false, AV.sl (some (4, 0)) S1.length 0 false, int i64 6, int i64 (i64.wrap (i + 1))], (hSegGoesRU050 v b n m a N i d S S1 S2)))
 else none) else none) else none) else none) else none) else none) else none) else none) else none) else none) := by
  kernel_rfl

noncomputable def hSegGoesRBE0 (v b : Bool) (n m a N i : Int) (d S S1 S2 : List UInt8) : AHeap := [cells (bys d) 1 Md.far none, cells [int u8 17, AV.bool v, int u8 10, int u8 (kb1 n), int u8 (kb2 n), int u8 (kb3 n), int u8 0, int u8 0, int u8 0, int u8 0, int u8 0, int u8 0, int u8 0, int u8 0, int u8 0, int u8 0, int u8 0, int u8 0, AV.bool v, int u8 192, int u8 168, int u8 0, int u8 1, int u8 0, int u8 0, int u8 0, int u8 0, int u8 0, int u8 0, int u8 0, int u8 0, int u8 0, int u8 0, int u8 0, int u8 0, int u16 (kport n), int u16 80] 37 Md.own none, cells [AV.bool v, int u8 172, int u8 16, int u8 0, int u8 (db3 m), int u8 0, int u8 0, int u8 0, int u8 0, int u8 0, int u8 0, int u8 0, int u8 0, int u8 0, int u8 0, int u8 0, int u8 0, int u16 (dport m)] 18 Md.own none, cells (bys S) 1 Md.own none, cells (bys S1) 1 Md.own none]
theorem nfSegGoesRBE (v b : Bool) (n m a N i : Int) (d S S1 S2 : List UInt8) :
 qround Try.prog (tSGo S S1 S2) 100 4 [(84, .bool false)] noT (loopIn (bodyOf Try.prog 4) 0) mSGo [.bool true, .bool true, .int .i64 a, .ptr (some (1, 0)), .ptr (some (2, 0)), slB 3 S, slB 4 S1, .int .i64 6, .int .i64 i] (hSegGoesB4 v b n m a N d S S1 S2) =
 (if decide (i < (S.length : Int)) = false then
 some ((AEx.exit 0, [AV.bool true, AV.bool true, int i64 a, AV.ptr (some (1, 0)), AV.ptr (some (2, 0)), AV.sl (some (3, 0)) S.length 0 false, AV.sl (some (4, 0)) S1.length 0 false, int i64 6, int i64 i], (hSegGoesRBE0 v b n m a N i d S S1 S2)))
 else none) := by
  kernel_rfl

noncomputable def hSegGoesRB10 (v b : Bool) (n m a N i : Int) (d S S1 S2 : List UInt8) : AHeap := [cells (bys d) 1 Md.far none, cells [int u8 17, AV.bool v, int u8 10, int u8 (kb1 n), int u8 (kb2 n), int u8 (kb3 n), int u8 0, int u8 0, int u8 0, int u8 0, int u8 0, int u8 0, int u8 0, int u8 0, int u8 0, int u8 0, int u8 0, int u8 0, AV.bool v, int u8 192, int u8 168, int u8 0, int u8 1, int u8 0, int u8 0, int u8 0, int u8 0, int u8 0, int u8 0, int u8 0, int u8 0, int u8 0, int u8 0, int u8 0, int u8 0, int u16 (kport n), int u16 80] 37 Md.own none, cells [AV.bool v, int u8 172, int u8 16, int u8 0, int u8 (db3 m), int u8 0, int u8 0, int u8 0, int u8 0, int u8 0, int u8 0, int u8 0, int u8 0, int u8 0, int u8 0, int u8 0, int u8 0, int u16 (dport m)] 18 Md.own none, cells (bys S) 1 Md.own none, cells (bys S1) 1 Md.own none]
theorem nfSegGoesRB1 (v b : Bool) (n m a N i : Int) (d S S1 S2 : List UInt8) :
 qround Try.prog (tSGo S S1 S2) 100 4 [(84, .bool true), (95, .bool false)] noT (loopIn (bodyOf Try.prog 4) 0) mSGo [.bool true, .bool true, .int .i64 a, .ptr (some (1, 0)), .ptr (some (2, 0)), slB 3 S, slB 4 S1, .int .i64 6, .int .i64 i] (hSegGoesB4 v b n m a N d S S1 S2) =
 (if decide (i < (S.length : Int)) = true then
 (if 0 ≤ i ∧ i < (S.length : Int) then
 (if isIntV u8 (bys S)[0 + i.toNat * 1]? = true then
 (if 0 ≤ i ∧ i < (S1.length : Int) then
 (if isIntV u8 (bys S1)[0 + i.toNat * 1]? = true then
 (if (intV (bys S)[0 + i.toNat * 1]? != intV (bys S1)[0 + i.toNat * 1]?) = false then
 some ((AEx.norm, [AV.bool true, AV.bool true, int i64 a, AV.ptr (some (1, 0)), AV.ptr (some (2, 0)), AV.sl (some (3, 0)) S.length 0 false, AV.sl (some (4, 0)) S1.length 0 false, int i64 6, int i64 (i64.wrap (i + 1))], (hSegGoesRB10 v b n m a N i d S S1 S2)))
 else none) else none) else none) else none) else none) else none) := by
  kernel_rfl

noncomputable def hSegGoesRB20 (v b : Bool) (n m a N i : Int) (d S S1 S2 : List UInt8) : AHeap := [cells (bys d) 1 Md.far none, cells [int u8 17, AV.bool v, int u8 10, int u8 (kb1 n), int u8 (kb2 n), int u8 (kb3 n), int u8 0, int u8 0, int u8 0, int u8 0, int u8 0, int u8 0, int u8 0, int u8 0, int u8 0, int u8 0, int u8 0, int u8 0, AV.bool v, int u8 192, int u8 168, int u8 0, int u8 1, int u8 0, int u8 0, int u8 0, int u8 0, int u8 0, int u8 0, int u8 0, int u8 0, int u8 0, int u8 0, int u8 0, int u8 0, int u16 (kport n), int u16 80] 37 Md.own none, cells [AV.bool v, int u8 172, int u8 16, int u8 0, int u8 (db3 m), int u8 0, int u8 0, int u8 0, int u8 0, int u8 0, int u8 0, int u8 0, int u8 0, int u8 0, int u8 0, int u8 0, int u8 0, int u16 (dport m)] 18 Md.own none, cells (bys S) 1 Md.own none, cells (bys S1) 1 Md.own none]
theorem nfSegGoesRB2 (v b : Bool) (n m a N i : Int) (d S S1 S2 : List UInt8) :
 qround Try.prog (tSGo S S1 S2) 100 4 [(84, .bool true), (95, .bool true), (98, .bool false)] noT (loopIn (bodyOf Try.prog 4) 0) mSGo [.bool true, .bool true, .int .i64 a, .ptr (some (1, 0)), .ptr (some (2, 0)), slB 3 S, slB 4 S1, .int .i64 6, .int .i64 i] (hSegGoesB4 v b n m a N d S S1 S2) =
 (if decide (i < (S.length : Int)) = true then
 (if 0 ≤ i ∧ i < (S.length : Int) then
 (if isIntV u8 (bys S)[0 + i.toNat * 1]? = true then
 (if 0 ≤ i ∧ i < (S1.length : Int) then
 (if isIntV u8 (bys S1)[0 + i.toNat * 1]? = true then
 (if (intV (bys S)[0 + i.toNat * 1]? != intV (bys S1)[0 + i.toNat * 1]?) = true then
 (if (i != 2) = false then
 some ((AEx.norm, [AV.bool true, AV.bool true, int i64 a, AV.ptr (some (1, 0)), AV.ptr (some (2, 0)), AV.sl (some (3, 0)) S.length 0 false, AV.sl (some (4, 0)) S1.length 0 false, int i64 6, int i64 (i64.wrap (i + 1))], (hSegGoesRB20 v b n m a N i d S S1 S2)))
 else none) else none) else none) else none) else none) else none) else none) := by
  kernel_rfl

noncomputable def hSegGoesRB30 (v b : Bool) (n m a N i : Int) (d S S1 S2 : List UInt8) : AHeap := [cells (bys d) 1 Md.far none, cells [int u8 17, AV.bool v, int u8 10, int u8 (kb1 n), int u8 (kb2 n), int u8 (kb3 n), int u8 0, int u8 0, int u8 0, int u8 0, int u8 0, int u8 0, int u8 0, int u8 0, int u8 0, int u8 0, int u8 0, int u8 0, AV.bool v, int u8 192, int u8 168, int u8 0, int u8 1, int u8 0, int u8 0, int u8 0, int u8 0, int u8 0, int u8 0, int u8 0, int u8 0, int u8 0, int u8 0, int u8 0, int u8 0, int u16 (kport n), int u16 80] 37 Md.own none, cells [AV.bool v, int u8 172, int u8 16, int u8 0, int u8 (db3 m), int u8 0, int u8 0, int u8 0, int u8 0, int u8 0, int u8 0, int u8 0, int u8 0, int u8 0, int u8 0, int u8 0, int u8 0, int u16 (dport m)] 18 Md.own none, cells (bys S) 1 Md.own none, cells (bys S1) 1 Md.own none]
theorem nfSegGoesRB3 (v b : Bool) (n m a N i : Int) (d S S1 S2 : List UInt8) :
 qround Try.prog (tSGo S S1 S2) 100 4 [(84, .bool true), (95, .bool true), (98, .bool true), (102, .bool false)] noT (loopIn (bodyOf Try.prog 4) 0) mSGo [.bool true, .bool true, .int .i64 a, .ptr (some (1, 0)), .ptr (some (2, 0)), slB 3 S, slB 4 S1, .int .i64 6, .int .i64 i] (hSegGoesB4 v b n m a N d S S1 S2) =
 (if decide (i < (S.length : Int)) = true then
 (if 0 ≤ i ∧ i < (S.length : Int) then
 (if isIntV u8 (bys S)[0 + i.toNat * 1]? = true then
 (if 0 ≤ i ∧ i < (S1.length : Int) then
 (if isIntV u8 (bys S1)[0 + i.toNat * 1]? = true then
 (if (intV (bys S)[0 + i.toNat * 1]? != intV (bys S1)[0 + i.toNat * 1]?) = true then
 (if (i != 2) = true then
 (if (i != 3) = false then
 some ((AEx.norm, [AV.bool true, AV.bool true, int i64 a, AV.ptr (some (1, 0)), AV.ptr (some (2, 0)), AV.sl (some (3, 0)) S.length 0 false, AV.sl (some (4, 0)) S1.length 0 false, int i64 6, int i64 (i64.wrap (i + 1))], (hSegGoesRB30 v b n m a N i d S S1 S2)))
 else none) else none) else none) else none) else none) else none) else none) else none) := by
  kernel_rfl

noncomputable def hSegGoesRB40 (v b : Bool) (n m a N i : Int) (d S S1 S2 : List UInt8) : AHeap := [cells (bys d) 1 Md.far none, cells [int u8 17, AV.bool v, int u8 10, int u8 (kb1 n), int u8 (kb2 n), int u8 (kb3 n), int u8 0, int u8 0, int u8 0, int u8 0, int u8 0, int u8 0, int u8 0, int u8 0, int u8 0, int u8 0, int u8 0, int u8 0, AV.bool v, int u8 192, int u8 168, int u8 0, int u8 1, int u8 0, int u8 0, int u8 0, int u8 0, int u8 0, int u8 0, int u8 0, int u8 0, int u8 0, int u8 0, int u8 0, int u8 0, int u16 (kport n), int u16 80] 37 Md.own none, cells [AV.bool v, int u8 172, int u8 16, int u8 0, int u8 (db3 m), int u8 0, int u8 0, int u8 0, int u8 0, int u8 0, int u8 0, int u8 0, int u8 0, int u8 0, int u8 0, int u8 0, int u8 0, int u16 (dport m)] 18 Md.own none, cells (bys S) 1 Md.own none, cells (bys S1) 1 Md.own none]
theorem nfSegGoesRB4 (v b : Bool) (n m a N i : Int) (d S S1 S2 : List UInt8) :
 qround Try.prog (tSGo S S1 S2) 100 4 [(84, .bool true), (95, .bool true), (98, .bool true), (102, .bool true), (107, .bool false)] noT (loopIn (bodyOf Try.prog 4) 0) mSGo [.bool true, .bool true, .int .i64 a, .ptr (some (1, 0)), .ptr (some (2, 0)), slB 3 S, slB 4 S1, .int .i64 6, .int .i64 i] (hSegGoesB4 v b n m a N d S S1 S2) =
 (if decide (i < (S.length : Int)) = true then
 (if 0 ≤ i ∧ i < (S.length : Int) then
 (if isIntV u8 (bys S)[0 + i.toNat * 1]? = true then
 (if 0 ≤ i ∧ i < (S1.length : Int) then
 (if isIntV u8 (bys S1)[0 + i.toNat * 1]? = true then
 (if (intV (bys S)[0 + i.toNat * 1]? != intV (bys S1)[0 + i.toNat * 1]?) = true then
 (if (i != 2) = true then
 (if (i != 3) = true then
 (if (i != 6) = false then
 some ((AEx.norm, [AV.bool true, AV.bool true, int i64 a, AV.ptr (some (1, 0)), AV.ptr (some (2, 0)), AV.sl (some (3, 0)) S.length 0 false, AV.sl (some (4, 0)) S1.length 0 false, int i64 6, int i64 (i64.wrap (i + 1))], (hSegGoesRB40 v b n m a N i d S S1 S2)))
 else none) else none) else none) else none) else none) else none) else none) else none) else none) := by
  kernel_rfl

noncomputable def hSegGoesRB50 (v b : Bool) (n m a N i : Int) (d S S1 S2 : List UInt8) : AHeap := [cells (bys d) 1 Md.far none, cells [int u8 17, AV.bool v, int u8 10, int u8 (kb1 n), int u8 (kb2 n), int u8 (kb3 n), int u8 0, int u8 0, int u8 0, int u8 0, int u8 0, int u8 0, int u8 0, int u8 0, int u8 0, int u8 0, int u8 0, int u8 0, AV.bool v, int u8 192, int u8 168, int u8 0, int u8 1, int u8 0, int u8 0, int u8 0, int u8 0, int u8 0, int u8 0, int u8 0, int u8 0, int u8 0, int u8 0, int u8 0, int u8 0, int u16 (kport n), int u16 80] 37 Md.own none, cells [AV.bool v, int u8 172, int u8 16, int u8 0, int u8 (db3 m), int u8 0, int u8 0, int u8 0, int u8 0, int u8 0, int u8 0, int u8 0, int u8 0, int u8 0, int u8 0, int u8 0, int u8 0, int u16 (dport m)] 18 Md.own none, cells (bys S) 1 Md.own none, cells (bys S1) 1 Md.own none]
theorem nfSegGoesRB5 (v b : Bool) (n m a N i : Int) (d S S1 S2 : List UInt8) :
 qround Try.prog (tSGo S S1 S2) 100 4 [(84, .bool true), (95, .bool true), (98, .bool true), (102, .bool true), (107, .bool true), (113, .bool false)] noT (loopIn (bodyOf Try.prog 4) 0) mSGo [.bool true, .bool true, .int .i64 a, .ptr (some (1, 0)), .ptr (some (2, 0)), slB 3 S, slB 4 S1, .int .i64 6, .int .i64 i] (hSegGoesB4 v b n m a N d S S1 S2) =
 (if decide (i < (S.length : Int)) = true then
 (if 0 ≤ i ∧ i < (S.length : Int) then
 (if isIntV u8 (bys S)[0 + i.toNat * 1]? = true then
 (if 0 ≤ i ∧ i < (S1.length : Int) then
 (if isIntV u8 (bys S1)[0 + i.toNat * 1]? = true then
 (if (intV (bys S)[0 + i.toNat * 1]? != intV (bys S1)[0 + i.toNat * 1]?) = true then
 (if (i != 2) = true then
 (if (i != 3) = true then
 (if (i != 6) = true then
 (if (i != 7) = false then
 some ((AEx.norm, [AV.bool true, AV.bool true, int i64 a, AV.ptr (some (1, 0)), AV.ptr (some (2, 0)), AV.sl (some (3, 0)) S.length 0 false, AV.sl (some (4, 0)) S1.length 0 false, int i64 6, int i64 (i64.wrap (i + 1))], (hSegGoesRB50 v b n m a N i d S S1 S2)))
 else none) else none) else none) else none) else none) else none) else none) else none) else none) else none) := by
  kernel_rfl


end Go.Proofs.Ytmlenlfhciapfaa.L
