/- seg's Port, and the reference's. -/
import Derived.Test.YtnchnjkakddhlaaOctB
set_option autoImplicit false
set_option maxRecDepth 100000
set_option linter.unusedVariables false
set_option linter.unusedSimpArgs false
namespace Go.Proofs.Ytnchnjkakddhlaa.L
open Go Go.Abs
open Go.IntKind (u8 u16 u32 u64 i64)
open Go.Abs.AV (int)
open Go.Abs.ABlk (cells)

noncomputable def znd (l l1 l2 A B : List UInt8) (v : AV) (s u c : Int) : Tbl := [(41, zbj (zgo zgL [(3, v, [])])), (22, zbj (zgo zdB [(4, slB 4 l, [zbo l])])),
 (44, zbj (zyr zeE [(5, .bool true, [(4, zbo l1)], []), (7, .bool true, [(4, zbo l2)], [])])), (43, zbj (zgo zvR [(5, .tup [.int .u16 s, .bool true], [])])),
 (49, zbj (zgo zfH [(5, .int .u16 u, [])])), (46, zbj (zgo zbh [(5, slB 5 A, [zbo A]), (6, slB 6 B, [zbo B])])), (45, zbj (zgo zfw [(7, .int .u16 c, [])]))]
theorem zhN (l l1 l2 A B : List UInt8) (v : AV) (s u c : Int) : ∀ f E, (znd l l1 l2 A B v s u c).find f = some E → SoundE Try.prog f E := zal (zgN zzQ _) (zal (zgN zoJ _) (zal (zBv zwD _) (zal (zgN zBG _) (zal (zgN ztX _) (zal (zgN ztc _) (zal (zgN zq5 _) (zar _)))))))
def hd7 (s d f : Int) : AV := .tup [.agg [.int .u16 s, .int .u16 d, .int .u8 f], .int .i64 0]
def zBI (r : Int) : AV := .tup [.agg [.int .u16 0, .int .u16 0, .int .u8 0], .int .i64 r]
def rd7 (s d f : Int) : AV := .tup [.agg [.int .i64 s, .int .i64 d, .int .u8 f], .int .i64 0]
def zBO (r : Int) : AV := .tup [.agg [.int .i64 0, .int .i64 0, .int .u8 0], .int .i64 r]
noncomputable def ziG (l X Y : List UInt8) (v w : Bool) : zaa := [cells (bys l) 1 Md.far none, cells (AV.bool v :: bys X) 17 Md.own none, cells (AV.bool w :: bys Y) 17 Md.own none]
noncomputable def zlP : zaa := []
noncomputable def zhA (l l1 l2 A B X Y : List UInt8) (v w : Bool) (to e s d f u c : Int) : zaa := (ziG l X Y v w) ++ [cells [int u16 e, int u16 d, int u8 f] 3 Md.own none]
noncomputable def zx9 (l : List UInt8) : zaa := [cells (bys l) 1 Md.own none]
noncomputable def zlh (l l1 l2 A B X Y : List UInt8) (v w : Bool) (to e s d f u c : Int) : zaa := (zhA l l1 l2 A B X Y v w to e s d f u c) ++ [cells (bys l) 1 Md.own none]
noncomputable def zfV (l l1 l2 A B X Y : List UInt8) (v w : Bool) (to e s d f u c : Int) : zaa := (zhA l l1 l2 A B X Y v w to e s d f u c) ++ [cells (bys l1) 1 Md.own none]
noncomputable def zwN (A : List UInt8) : zaa := [cells (bys A) 1 Md.own none]
noncomputable def zlK (l l1 l2 A B X Y : List UInt8) (v w : Bool) (to e s d f u c : Int) : zaa := (zfV l l1 l2 A B X Y v w to e s d f u c) ++ [cells (bys A) 1 Md.own none]
noncomputable def zxo (B : List UInt8) : zaa := [cells (bys B) 1 Md.own none]
noncomputable def zjM (l l1 l2 A B X Y : List UInt8) (v w : Bool) (to e s d f u c : Int) : zaa := (zlK l l1 l2 A B X Y v w to e s d f u c) ++ [cells (bys B) 1 Md.own none]
noncomputable def zhk (l l1 l2 A B X Y : List UInt8) (v w : Bool) (to e s d f u c : Int) : zaa := ((zjM l l1 l2 A B X Y v w to e s d f u c).set 4 (cells (bys l2) 1 Md.own none))
theorem zwR {R : Type} (l l1 l2 A B X Y : List UInt8) (v w : Bool) (to e s d f u c : Int) (K : AV → zaa → Option R) :
 zbs Try.prog (znd l l1 l2 A B (hd7 e d f) s u c) 100 4 [(24, .bool false), (30, .bool false)] [] 23 [.int .u8 6, slB 0 l, .int .u16 to, .agg (.bool v :: bys X), .agg (.bool w :: bys Y)] [zaC l] K =
 (if zaE (Says zgL [int u8 6, AV.sl (some (0, 0)) l.length 0 false] (ziG l X Y v w) (AV.tup [AV.agg [int u16 e, int u16 d, int u8 f], int i64 0]) (zlP)) = true then
 (if (!zbZ (some (AV.bool v)) == zbZ (some (AV.bool w))) = false then
 (if zaE (Says zdB [AV.sl (some (0, 0)) l.length 0 false] (zhA l l1 l2 A B X Y v w to e s d f u c) (AV.sl (some (4, 0)) l.length 0 false) (zx9 l)) = true then
 (if zaE (SaysH zeE [AV.sl (some (4, 0)) l.length 0 false, int i64 2, int u16 to] (zlh l l1 l2 A B X Y v w to e s d f u c) (AV.bool true) (zfV l l1 l2 A B X Y v w to e s d f u c)) = true then
 (if zaE (Says zvR [AV.sl (some (0, 0)) l.length 0 false, int i64 16] (zfV l l1 l2 A B X Y v w to e s d f u c) (AV.tup [int u16 s, AV.bool true]) (zlP)) = true then
 (if zaE (Says zfH [int u16 s, int u16 (zad (some (int u16 d))), int u16 to] (zfV l l1 l2 A B X Y v w to e s d f u c) (int u16 u) (zlP)) = true then
 (if 17 ≤ (AV.bool v :: bys X).length then
 (if zaE (Says zbh [AV.agg (List.take 17 (AV.bool v :: bys X))] (zfV l l1 l2 A B X Y v w to e s d f u c) (AV.sl (some (5, 0)) A.length 0 false) (zwN A)) = true then
 (if 17 ≤ (AV.bool w :: bys Y).length then
 (if zaE (Says zbh [AV.agg (List.take 17 (AV.bool w :: bys Y))] (zlK l l1 l2 A B X Y v w to e s d f u c) (AV.sl (some (6, 0)) B.length 0 false) (zxo B)) = true then
 (if zaE (Says zfw [int u16 u, AV.sl (some (5, 0)) A.length 0 false, AV.sl (some (6, 0)) B.length 0 false] (zjM l l1 l2 A B X Y v w to e s d f u c) (int u16 c) (zlP)) = true then
 (if 17 ≤ (AV.bool w :: bys Y).length then
 (if (AV.agg (List.take 17 (AV.bool w :: bys Y))).beq (AV.agg (List.take 17 (AV.bool w :: bys Y))) = true then
 (if zaE (SaysH zeE [AV.sl (some (4, 0)) l.length 0 false, int i64 16, int u16 c] (zjM l l1 l2 A B X Y v w to e s d f u c) (AV.bool true) (zhk l l1 l2 A B X Y v w to e s d f u c)) = true then
 K (AV.sl (some (4, 0)) l.length 0 false) ((zhk l l1 l2 A B X Y v w to e s d f u c))
 else none) else none) else none) else none) else none) else none) else none) else none) else none) else none) else none) else none) else none) else none) := by
  kernel_rfl

noncomputable def zxK (l l1 l2 A B X Y : List UInt8) (v w : Bool) (to e s d f u c : Int) : zaa := (ziG l X Y v w)
noncomputable def zlq : zaa := []
noncomputable def zwW (l l1 l2 A B X Y : List UInt8) (v w : Bool) (to e s d f u c : Int) : zaa := (zhA l l1 l2 A B X Y v w to e s d f u c)
noncomputable def zyo (l : List UInt8) : zaa := [cells (bys l) 1 Md.own none]
noncomputable def zyC (l l1 l2 A B X Y : List UInt8) (v w : Bool) (to e s d f u c : Int) : zaa := (zlh l l1 l2 A B X Y v w to e s d f u c)
noncomputable def zls (l l1 l2 A B X Y : List UInt8) (v w : Bool) (to e s d f u c : Int) : zaa := (zfV l l1 l2 A B X Y v w to e s d f u c)
noncomputable def zwX (A : List UInt8) : zaa := [cells (bys A) 1 Md.own none]
noncomputable def zyA (l l1 l2 A B X Y : List UInt8) (v w : Bool) (to e s d f u c : Int) : zaa := (zlK l l1 l2 A B X Y v w to e s d f u c)
noncomputable def zx5 (B : List UInt8) : zaa := [cells (bys B) 1 Md.own none]
noncomputable def zqH (l l1 l2 A B X Y : List UInt8) (v w : Bool) (to e s d f u c : Int) : zaa := (zjM l l1 l2 A B X Y v w to e s d f u c)
noncomputable def zlm (l l1 l2 A B X Y : List UInt8) (v w : Bool) (to e s d f u c : Int) : zaa := (zhk l l1 l2 A B X Y v w to e s d f u c)
theorem zxe {R : Type} (l l1 l2 A B X Y : List UInt8) (v w : Bool) (to e s d f u c : Int) (K : AV → zaa → Option R) :
 zbs Try.prog (znd l l1 l2 A B (hd7 e d f) s u c) 100 4 [(24, .bool false), (30, .bool false), (49, .bool false), (67, .bool false)] [] 23 [.int .u8 17, slB 0 l, .int .u16 to, .agg (.bool v :: bys X), .agg (.bool w :: bys Y)] [zaC l] K =
 (if zaE (Says zgL [int u8 17, AV.sl (some (0, 0)) l.length 0 false] (zxK l l1 l2 A B X Y v w to e s d f u c) (AV.tup [AV.agg [int u16 e, int u16 d, int u8 f], int i64 0]) (zlq)) = true then
 (if (!zbZ (some (AV.bool v)) == zbZ (some (AV.bool w))) = false then
 (if zaE (Says zdB [AV.sl (some (0, 0)) l.length 0 false] (zwW l l1 l2 A B X Y v w to e s d f u c) (AV.sl (some (4, 0)) l.length 0 false) (zyo l)) = true then
 (if zaE (SaysH zeE [AV.sl (some (4, 0)) l.length 0 false, int i64 2, int u16 to] (zyC l l1 l2 A B X Y v w to e s d f u c) (AV.bool true) (zls l l1 l2 A B X Y v w to e s d f u c)) = true then
 (if zaE (Says zvR [AV.sl (some (0, 0)) l.length 0 false, int i64 6] (zls l l1 l2 A B X Y v w to e s d f u c) (AV.tup [int u16 s, AV.bool true]) (zlq)) = true then
 (if (s == 0) = false then
 (if zaE (Says zfH [int u16 s, int u16 (zad (some (int u16 d))), int u16 to] (zls l l1 l2 A B X Y v w to e s d f u c) (int u16 u) (zlq)) = true then
 (if 17 ≤ (AV.bool v :: bys X).length then
 (if zaE (Says zbh [AV.agg (List.take 17 (AV.bool v :: bys X))] (zls l l1 l2 A B X Y v w to e s d f u c) (AV.sl (some (5, 0)) A.length 0 false) (zwX A)) = true then
 (if 17 ≤ (AV.bool w :: bys Y).length then
 (if zaE (Says zbh [AV.agg (List.take 17 (AV.bool w :: bys Y))] (zyA l l1 l2 A B X Y v w to e s d f u c) (AV.sl (some (6, 0)) B.length 0 false) (zx5 B)) = true then
 (if zaE (Says zfw [int u16 u, AV.sl (some (5, 0)) A.length 0 false, AV.sl (some (6, 0)) B.length 0 false] (zqH l l1 l2 A B X Y v w to e s d f u c) (int u16 c) (zlq)) = true then
 (if 17 ≤ (AV.bool w :: bys Y).length then
 (if (AV.agg (List.take 17 (AV.bool w :: bys Y))).beq (AV.agg (List.take 17 (AV.bool w :: bys Y))) = true then
 (if (c == 0) = false then
 (if zaE (SaysH zeE [AV.sl (some (4, 0)) l.length 0 false, int i64 6, int u16 c] (zqH l l1 l2 A B X Y v w to e s d f u c) (AV.bool true) (zlm l l1 l2 A B X Y v w to e s d f u c)) = true then
 K (AV.sl (some (4, 0)) l.length 0 false) ((zlm l l1 l2 A B X Y v w to e s d f u c))
 else none) else none) else none) else none) else none) else none) else none) else none) else none) else none) else none) else none) else none) else none) else none) else none) := by
  kernel_rfl

noncomputable def zxB (l l1 l2 A B X Y : List UInt8) (v w : Bool) (to e s d f u c : Int) : zaa := (ziG l X Y v w)
noncomputable def zr5 : zaa := []
noncomputable def zxI (l l1 l2 A B X Y : List UInt8) (v w : Bool) (to e s d f u c : Int) : zaa := (zhA l l1 l2 A B X Y v w to e s d f u c)
noncomputable def zyv (l : List UInt8) : zaa := [cells (bys l) 1 Md.own none]
noncomputable def zxg (l l1 l2 A B X Y : List UInt8) (v w : Bool) (to e s d f u c : Int) : zaa := (zlh l l1 l2 A B X Y v w to e s d f u c)
noncomputable def zlx (l l1 l2 A B X Y : List UInt8) (v w : Bool) (to e s d f u c : Int) : zaa := (zfV l l1 l2 A B X Y v w to e s d f u c)
theorem zx0 {R : Type} (l l1 l2 A B X Y : List UInt8) (v w : Bool) (to e s d f u c : Int) (K : AV → zaa → Option R) :
 zbs Try.prog (znd l l1 l2 A B (hd7 e d f) s u c) 100 4 [(24, .bool false), (30, .bool false), (49, .bool true)] [] 23 [.int .u8 17, slB 0 l, .int .u16 to, .agg (.bool v :: bys X), .agg (.bool w :: bys Y)] [zaC l] K =
 (if zaE (Says zgL [int u8 17, AV.sl (some (0, 0)) l.length 0 false] (zxB l l1 l2 A B X Y v w to e s d f u c) (AV.tup [AV.agg [int u16 e, int u16 d, int u8 f], int i64 0]) (zr5)) = true then
 (if (!zbZ (some (AV.bool v)) == zbZ (some (AV.bool w))) = false then
 (if zaE (Says zdB [AV.sl (some (0, 0)) l.length 0 false] (zxI l l1 l2 A B X Y v w to e s d f u c) (AV.sl (some (4, 0)) l.length 0 false) (zyv l)) = true then
 (if zaE (SaysH zeE [AV.sl (some (4, 0)) l.length 0 false, int i64 2, int u16 to] (zxg l l1 l2 A B X Y v w to e s d f u c) (AV.bool true) (zlx l l1 l2 A B X Y v w to e s d f u c)) = true then
 (if zaE (Says zvR [AV.sl (some (0, 0)) l.length 0 false, int i64 6] (zlx l l1 l2 A B X Y v w to e s d f u c) (AV.tup [int u16 s, AV.bool true]) (zr5)) = true then
 (if (s == 0) = true then
 K (AV.sl (some (4, 0)) l.length 0 false) ((zlx l l1 l2 A B X Y v w to e s d f u c))
 else none) else none) else none) else none) else none) else none) := by
  kernel_rfl

noncomputable def zwU (l l1 l2 A B X Y : List UInt8) (v w : Bool) (to e s d f u c : Int) : zaa := (ziG l X Y v w)
noncomputable def zk4 : zaa := []
noncomputable def zxW (l l1 l2 A B X Y : List UInt8) (v w : Bool) (to e s d f u c : Int) : zaa := (zhA l l1 l2 A B X Y v w to e s d f u c)
noncomputable def zwL (l : List UInt8) : zaa := [cells (bys l) 1 Md.own none]
noncomputable def zyx (l l1 l2 A B X Y : List UInt8) (v w : Bool) (to e s d f u c : Int) : zaa := (zlh l l1 l2 A B X Y v w to e s d f u c)
noncomputable def zlj (l l1 l2 A B X Y : List UInt8) (v w : Bool) (to e s d f u c : Int) : zaa := (zfV l l1 l2 A B X Y v w to e s d f u c)
noncomputable def zyq (A : List UInt8) : zaa := [cells (bys A) 1 Md.own none]
noncomputable def zyw (l l1 l2 A B X Y : List UInt8) (v w : Bool) (to e s d f u c : Int) : zaa := (zlK l l1 l2 A B X Y v w to e s d f u c)
noncomputable def zwQ (B : List UInt8) : zaa := [cells (bys B) 1 Md.own none]
noncomputable def zqN (l l1 l2 A B X Y : List UInt8) (v w : Bool) (to e s d f u c : Int) : zaa := (zjM l l1 l2 A B X Y v w to e s d f u c)
noncomputable def zlu (l l1 l2 A B X Y : List UInt8) (v w : Bool) (to e s d f u c : Int) : zaa := (zhk l l1 l2 A B X Y v w to e s d f u c)
theorem zxH {R : Type} (l l1 l2 A B X Y : List UInt8) (v w : Bool) (to e s d f u c : Int) (K : AV → zaa → Option R) :
 zbs Try.prog (znd l l1 l2 A B (hd7 e d f) s u c) 100 4 [(24, .bool false), (30, .bool false), (49, .bool false), (67, .bool true)] [] 23 [.int .u8 17, slB 0 l, .int .u16 to, .agg (.bool v :: bys X), .agg (.bool w :: bys Y)] [zaC l] K =
 (if zaE (Says zgL [int u8 17, AV.sl (some (0, 0)) l.length 0 false] (zwU l l1 l2 A B X Y v w to e s d f u c) (AV.tup [AV.agg [int u16 e, int u16 d, int u8 f], int i64 0]) (zk4)) = true then
 (if (!zbZ (some (AV.bool v)) == zbZ (some (AV.bool w))) = false then
 (if zaE (Says zdB [AV.sl (some (0, 0)) l.length 0 false] (zxW l l1 l2 A B X Y v w to e s d f u c) (AV.sl (some (4, 0)) l.length 0 false) (zwL l)) = true then
 (if zaE (SaysH zeE [AV.sl (some (4, 0)) l.length 0 false, int i64 2, int u16 to] (zyx l l1 l2 A B X Y v w to e s d f u c) (AV.bool true) (zlj l l1 l2 A B X Y v w to e s d f u c)) = true then
 (if zaE (Says zvR [AV.sl (some (0, 0)) l.length 0 false, int i64 6] (zlj l l1 l2 A B X Y v w to e s d f u c) (AV.tup [int u16 s, AV.bool true]) (zk4)) = true then
 (if (s == 0) = false then
 (if zaE (Says zfH [int u16 s, int u16 (zad (some (int u16 d))), int u16 to] (zlj l l1 l2 A B X Y v w to e s d f u c) (int u16 u) (zk4)) = true then
 (if 17 ≤ (AV.bool v :: bys X).length then
 (if zaE (Says zbh [AV.agg (List.take 17 (AV.bool v :: bys X))] (zlj l l1 l2 A B X Y v w to e s d f u c) (AV.sl (some (5, 0)) A.length 0 false) (zyq A)) = true then
 (if 17 ≤ (AV.bool w :: bys Y).length then
 (if zaE (Says zbh [AV.agg (List.take 17 (AV.bool w :: bys Y))] (zyw l l1 l2 A B X Y v w to e s d f u c) (AV.sl (some (6, 0)) B.length 0 false) (zwQ B)) = true then
 (if zaE (Says zfw [int u16 u, AV.sl (some (5, 0)) A.length 0 false, AV.sl (some (6, 0)) B.length 0 false] (zqN l l1 l2 A B X Y v w to e s d f u c) (int u16 c) (zk4)) = true then
 (if 17 ≤ (AV.bool w :: bys Y).length then
 (if (AV.agg (List.take 17 (AV.bool w :: bys Y))).beq (AV.agg (List.take 17 (AV.bool w :: bys Y))) = true then
 (if (c == 0) = true then
 (if zaE (SaysH zeE [AV.sl (some (4, 0)) l.length 0 false, int i64 6, int u16 65535] (zqN l l1 l2 A B X Y v w to e s d f u c) (AV.bool true) (zlu l l1 l2 A B X Y v w to e s d f u c)) = true then
 K (AV.sl (some (4, 0)) l.length 0 false) ((zlu l l1 l2 A B X Y v w to e s d f u c))
 else none) else none) else none) else none) else none) else none) else none) else none) else none) else none) else none) else none) else none) else none) else none) else none) := by
  kernel_rfl

noncomputable def zlM (l X Y : List UInt8) (v w : Bool) : zaa := [cells (bys l) 1 Md.far none, cells (AV.bool v :: bys X) 17 Md.own none, cells (AV.bool w :: bys Y) 17 Md.own none]
noncomputable def zxU : zaa := []
noncomputable def ztr (p : Int) (l l1 l2 A B X Y : List UInt8) (v w : Bool) (to e s d f u c : Int) : zaa := (zlM l X Y v w) ++ [cells [int u16 0, int u16 0, int u8 0] 3 Md.own none]
theorem zxY {R : Type} (p : Int) (l l1 l2 A B X Y : List UInt8) (v w : Bool) (to e s d f u c : Int) (K : AV → zaa → Option R) :
 zbs Try.prog (znd l l1 l2 A B (zBI s) s u c) 100 4 [(24, .bool true)] [] 23 [.int .u8 p, slB 0 l, .int .u16 to, .agg (.bool v :: bys X), .agg (.bool w :: bys Y)] [zaC l] K =
 (if zaE (Says zgL [int u8 p, AV.sl (some (0, 0)) l.length 0 false] (zlM l X Y v w) (AV.tup [AV.agg [int u16 0, int u16 0, int u8 0], int i64 s]) (zxU)) = true then
 (if (s != 0) = true then
 K (AV.sl none 0 0 true) ((ztr p l l1 l2 A B X Y v w to e s d f u c))
 else none) else none) := by
  kernel_rfl

noncomputable def zwV (p : Int) (l l1 l2 A B X Y : List UInt8) (v w : Bool) (to e s d f u c : Int) : zaa := (zlM l X Y v w)
noncomputable def zxP : zaa := []
noncomputable def zqM (p : Int) (l l1 l2 A B X Y : List UInt8) (v w : Bool) (to e s d f u c : Int) : zaa := (zlM l X Y v w) ++ [cells [int u16 e, int u16 d, int u8 f] 3 Md.own none]
theorem zwZ {R : Type} (p : Int) (l l1 l2 A B X Y : List UInt8) (v w : Bool) (to e s d f u c : Int) (K : AV → zaa → Option R) :
 zbs Try.prog (znd l l1 l2 A B (hd7 e d f) s u c) 100 4 [(24, .bool false), (30, .bool true)] [] 23 [.int .u8 p, slB 0 l, .int .u16 to, .agg (.bool v :: bys X), .agg (.bool w :: bys Y)] [zaC l] K =
 (if zaE (Says zgL [int u8 p, AV.sl (some (0, 0)) l.length 0 false] (zwV p l l1 l2 A B X Y v w to e s d f u c) (AV.tup [AV.agg [int u16 e, int u16 d, int u8 f], int i64 0]) (zxP)) = true then
 (if (!zbZ (some (AV.bool v)) == zbZ (some (AV.bool w))) = true then
 K (AV.sl none 0 0 true) ((zqM p l l1 l2 A B X Y v w to e s d f u c))
 else none) else none) := by
  kernel_rfl

end Go.Proofs.Ytnchnjkakddhlaa.L
