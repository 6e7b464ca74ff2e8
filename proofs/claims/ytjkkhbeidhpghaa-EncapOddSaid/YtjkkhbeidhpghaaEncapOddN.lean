/- EncapOdd's run: what the kernel makes of it. -/
import Derived.Test.YtjkkhbeidhpghaaOutK
import Derived.Test.YtjkkhbeidhpghaaEncKit
import Derived.Test.YtjkkhbeidhpghaaAwake10
set_option autoImplicit false
set_option maxRecDepth 100000
set_option linter.unusedVariables false
set_option linter.unusedSimpArgs false
namespace Go.Proofs.Ytjkkhbeidhpghaa.L
open Go Go.Abs
open Go.IntKind
open Go.Abs.AV (int)
open Go.Abs.ABlk (cells)

noncomputable def tEO (F O : List UInt8) : Tbl := [(9, entF eKey), (10, entF eDip), (16, entF eRound), (8, entF (eRel BuildR0 [(1, slB 1 F, [ownB F])])), (11, entF (eRel InR [(6, .tup [slB 6 O, .int .i64 0], [ownB O])])),
  (13, entF (eRel OutR [(7, outNo 7, [ownB []]), (8, outNo 8, [ownB []]), (9, outNo 9, [ownB []]), (10, outNo 10, [ownB []]), (11, outNo 11, [ownB []]), (12, outNo 12, [ownB []]), (13, outNo 13, [ownB []]), (14, outNo 14, [ownB []]), (15, outNo 15, [ownB []])])), (7, entF eAwake)]
theorem tEOOk (F O : List UInt8) : ∀ f E, (tEO F O).find f = some E → SoundE Try.prog f E := find_cons sKey (find_cons sDip (find_cons sRound (find_cons (sBuild0 _) (find_cons (sIn _) (find_cons (sOutN _) (find_cons sAwake (find_nil _)))))))
noncomputable def hEO0 (v d6 : Bool) (n at' bit more k j : Int) (d F O : List UInt8) : AHeap := [cells (bys d) 1 Md.far none]
noncomputable def hEO1 (v d6 : Bool) (n at' bit more k j : Int) (d F O : List UInt8) : AHeap := [cells (bys F) 1 Md.own none]
noncomputable def hEO2 (v d6 : Bool) (n at' bit more k j : Int) (d F O : List UInt8) : AHeap := [cells (bys d) 1 Md.far none, cells (bys F) 1 Md.own none, cells [AV.bool false, int u8 172, int u8 16, int u8 0, int u8 151, int u8 0, int u8 0, int u8 0, int u8 0, int u8 0, int u8 0, int u8 0, int u8 0, int u8 0, int u8 0, int u8 0, int u8 0] 17 Md.own none, cells [AV.bool false, int u8 172, int u8 16, int u8 0, int u8 151, int u8 0, int u8 0, int u8 0, int u8 0, int u8 0, int u8 0, int u8 0, int u8 0, int u8 0, int u8 0, int u8 0, int u8 0] 17 Md.own none, cells [AV.bool true, int u8 172, int u8 16, int u8 0, int u8 151, int u8 0, int u8 0, int u8 0, int u8 0, int u8 0, int u8 0, int u8 0, int u8 0, int u8 0, int u8 0, int u8 0, int u8 0] 17 Md.own none, cells [AV.bool true, int u8 172, int u8 16, int u8 0, int u8 151, int u8 0, int u8 0, int u8 0, int u8 0, int u8 0, int u8 0, int u8 0, int u8 0, int u8 0, int u8 0, int u8 0, int u8 0] 17 Md.own none]
noncomputable def hEO3 (v d6 : Bool) (n at' bit more k j : Int) (d F O : List UInt8) : AHeap := [cells (bys O) 1 Md.own none]
noncomputable def hEO4 (v d6 : Bool) (n at' bit more k j : Int) (d F O : List UInt8) : AHeap := [cells (bys d) 1 Md.far none, cells (bys F) 1 Md.own none, cells [AV.bool false, int u8 172, int u8 16, int u8 0, int u8 151, int u8 0, int u8 0, int u8 0, int u8 0, int u8 0, int u8 0, int u8 0, int u8 0, int u8 0, int u8 0, int u8 0, int u8 0] 17 Md.own none, cells [AV.bool false, int u8 172, int u8 16, int u8 0, int u8 151, int u8 0, int u8 0, int u8 0, int u8 0, int u8 0, int u8 0, int u8 0, int u8 0, int u8 0, int u8 0, int u8 0, int u8 0] 17 Md.own none, cells [AV.bool true, int u8 172, int u8 16, int u8 0, int u8 151, int u8 0, int u8 0, int u8 0, int u8 0, int u8 0, int u8 0, int u8 0, int u8 0, int u8 0, int u8 0, int u8 0, int u8 0] 17 Md.own none, cells [AV.bool true, int u8 172, int u8 16, int u8 0, int u8 151, int u8 0, int u8 0, int u8 0, int u8 0, int u8 0, int u8 0, int u8 0, int u8 0, int u8 0, int u8 0, int u8 0, int u8 0] 17 Md.own none, cells (bys O) 1 Md.own none, ABlk.dead, cells (List.take (O.length * 1) (bys O)) 1 Md.ro none, cells (List.take ((0 + O.length) * 1) (List.take (O.length * 1) (bys O)) ++ zrep more.toNat [int u8 0]) 1 Md.own (some 8)]
noncomputable def hEO5 (v d6 : Bool) (n at' bit more k j : Int) (d F O : List UInt8) : AHeap := [cells [] 1 Md.own none]
noncomputable def hEO6 (v d6 : Bool) (n at' bit more k j : Int) (d F O : List UInt8) : AHeap := [cells (bys d) 1 Md.far none, cells (bys F) 1 Md.own none, cells [AV.bool false, int u8 172, int u8 16, int u8 0, int u8 151, int u8 0, int u8 0, int u8 0, int u8 0, int u8 0, int u8 0, int u8 0, int u8 0, int u8 0, int u8 0, int u8 0, int u8 0] 17 Md.own none, cells [AV.bool false, int u8 172, int u8 16, int u8 0, int u8 151, int u8 0, int u8 0, int u8 0, int u8 0, int u8 0, int u8 0, int u8 0, int u8 0, int u8 0, int u8 0, int u8 0, int u8 0] 17 Md.own none, cells [AV.bool true, int u8 172, int u8 16, int u8 0, int u8 151, int u8 0, int u8 0, int u8 0, int u8 0, int u8 0, int u8 0, int u8 0, int u8 0, int u8 0, int u8 0, int u8 0, int u8 0] 17 Md.own none, cells [AV.bool true, int u8 172, int u8 16, int u8 0, int u8 151, int u8 0, int u8 0, int u8 0, int u8 0, int u8 0, int u8 0, int u8 0, int u8 0, int u8 0, int u8 0, int u8 0, int u8 0] 17 Md.own none, cells (bys O) 1 Md.own none, ABlk.dead, cells (List.take (O.length * 1) (bys O)) 1 Md.ro none, cells (List.take ((0 + O.length) * 1) (List.take (O.length * 1) (bys O)) ++ zrep more.toNat [int u8 0]) 1 Md.own (some 8), cells [] 1 Md.own none, cells [AV.bool false, int u8 0, int u8 0, int u8 0, int u8 0, int u8 0, int u8 0, int u8 0, int u8 0, int u8 0, int u8 0, int u8 0, int u8 0, int u8 0, int u8 0, int u8 0, int u8 0] 17 Md.own none, ABlk.dead, cells (putCells (List.take (O.length * 1) (bys O)) (0 + (i64.wrap (14 + k)).toNat * 1) [int u8 (abits u8 (· ^^^ ·) (intV (List.take (O.length * 1) (bys O))[0 + (i64.wrap (14 + k)).toNat * 1]?) (u8.wrap (1 * 2 ^ min j.toNat 8)))]) 1 Md.own none]
theorem nfEO {R : Type} (v d6 : Bool) (n at' bit more k j : Int) (d F O : List UInt8) (K : AV → Option R) :
 qrun Try.prog (tEO F O) 100 5 [(29, .bool false), (33, .bool false), (36, .bool false), (58, .bool false), (74, .int .i64 k), (81, .int .i64 j)] [] 4 [.int .i64 n, .bool v, slB 0 d, .bool d6, .int .i64 at', .int .i64 bit, .int .i64 more] [farB d] (fun v _ => K v) =
 (if decide ((d.length : Int) > 200) = false then
 (if decide (more < 1) = false then
 (if decide (more > 20) = false then
 (if cdec (BuildR0 [AV.agg [int u8 17, AV.bool v, int u8 10, int u8 (kb1 n), int u8 (kb2 n), int u8 (kb3 n), int u8 0, int u8 0, int u8 0, int u8 0, int u8 0, int u8 0, int u8 0, int u8 0, int u8 0, int u8 0, int u8 0, int u8 0, AV.bool v, int u8 192, int u8 168, int u8 0, int u8 1, int u8 0, int u8 0, int u8 0, int u8 0, int u8 0, int u8 0, int u8 0, int u8 0, int u8 0, int u8 0, int u8 0, int u8 0, int u16 (kport n), int u16 80], int u8 0, AV.sl (some (0, 0)) d.length 0 false, AV.bool false, AV.bool false, int i64 0] (hEO0 v d6 n at' bit more k j d F O) (AV.sl (some (1, 0)) F.length 0 false) (hEO1 v d6 n at' bit more k j d F O)) = true then
 (if cdec (InR [AV.sl (some (1, 0)) F.length 0 false, AV.agg [AV.bool false, int u8 172, int u8 16, int u8 0, int u8 151, int u8 0, int u8 0, int u8 0, int u8 0, int u8 0, int u8 0, int u8 0, int u8 0, int u8 0, int u8 0, int u8 0, int u8 0], AV.agg [AV.bool true, int u8 172, int u8 16, int u8 0, int u8 151, int u8 0, int u8 0, int u8 0, int u8 0, int u8 0, int u8 0, int u8 0, int u8 0, int u8 0, int u8 0, int u8 0, int u8 0], AV.agg [AV.bool d6, int u8 172, int u8 16, int u8 0, int u8 2, int u8 0, int u8 0, int u8 0, int u8 0, int u8 0, int u8 0, int u8 0, int u8 0, int u8 0, int u8 0, int u8 0, int u8 0]] (hEO2 v d6 n at' bit more k j d F O) (AV.tup [AV.sl (some (6, 0)) O.length 0 false, int i64 0]) (hEO3 v d6 n at' bit more k j d F O)) = true then
 (if decide ((O.length : Int) < 60) = false then
 (if 0 + O.length * 1 ≤ (bys O).length then
 (if (2 * (0 + O.length) + 200) * 1 ≤ 281474976710656 ∧ some 1 = some 1 ∧ 0 + O.length ≤ 70368744177664 then
 (if 0 = 0 ∧ 0 = 0 ∧ (0 < O.length ∨ 0 = 0) ∧ 1 = 1 ∧ (List.take (O.length * 1) (bys O)).all AV.isCell = true then
 (if 1 = 1 ∧ 0 ≤ more ∧ more ≤ 70368744177664 ∧ more * 1 ≤ 281474976710656 then
 (if (2 * (0 + O.length + more.toNat) + 200) * 1 ≤ 281474976710656 ∧ some 1 = some 1 ∧ 0 + O.length + more.toNat ≤ 70368744177664 then
 (if 0 + (0 + O.length) * 1 ≤ (List.take (O.length * 1) (bys O)).length then
 (if 0 = 0 ∧ 0 + (0 + O.length) * 1 = (List.take (O.length * 1) (bys O)).length ∧ (0 < more.toNat ∨ 0 = 0) ∧ 1 = 1 ∧ (zrep more.toNat [int u8 0]).all AV.isCell = true then
 (if cdec (OutR [AV.sl (some (9, 0)) (0 + O.length + more.toNat) 0 false] (hEO4 v d6 n at' bit more k j d F O) (AV.tup [AV.sl (some (10, 0)) 0 0 false, AV.agg adr0, AV.bool false]) (hEO5 v d6 n at' bit more k j d F O)) = true then
 (if 0 + O.length * 1 ≤ (bys O).length then
 (if (2 * (0 + O.length) + 200) * 1 ≤ 281474976710656 ∧ some 1 = some 1 ∧ 0 + O.length ≤ 70368744177664 then
 (if 0 = 0 ∧ 0 = 0 ∧ (0 < O.length ∨ 0 = 0) ∧ 1 = 1 ∧ (List.take (O.length * 1) (bys O)).all AV.isCell = true then
 (if i64 = i64 ∧ at' % 8 = k then
 (if 0 ≤ i64.wrap (14 + k) ∧ i64.wrap (14 + k) < (((0 + O.length) : Nat) : Int) then
 (if isIntV u8 (List.take (O.length * 1) (bys O))[0 + (i64.wrap (14 + k)).toNat * 1]? = true then
 (if i64 = i64 ∧ bit % 8 = j then
 (if j < 0 then
 none
 else (if 0 ≤ i64.wrap (14 + k) ∧ i64.wrap (14 + k) < (((0 + O.length) : Nat) : Int) then
 (if 0 + (i64.wrap (14 + k)).toNat * 1 + [int u8 (abits u8 (· ^^^ ·) (intV (List.take (O.length * 1) (bys O))[0 + (i64.wrap (14 + k)).toNat * 1]?) (u8.wrap (1 * 2 ^ min j.toNat 8)))].length ≤ (List.take (O.length * 1) (bys O)).length ∧ [int u8 (abits u8 (· ^^^ ·) (intV (List.take (O.length * 1) (bys O))[0 + (i64.wrap (14 + k)).toNat * 1]?) (u8.wrap (1 * 2 ^ min j.toNat 8)))].all AV.isCell = true then
 (if isIntV u8 (List.take (O.length * 1) (bys O))[0 + (i64.wrap (14 + k)).toNat * 1]? = true then
 (if (int u8 (intV (List.take (O.length * 1) (bys O))[0 + (i64.wrap (14 + k)).toNat * 1]?)).beq (int u8 (intV (List.take (O.length * 1) (bys O))[0 + (i64.wrap (14 + k)).toNat * 1]?)) = true then
 (if cdec (OutR [AV.sl (some (13, 0)) (0 + O.length) 0 false] (hEO6 v d6 n at' bit more k j d F O) (AV.tup [AV.sl (some (14, 0)) 0 0 false, AV.agg adr0, AV.bool false]) (hEO5 v d6 n at' bit more k j d F O)) = true then
 K (AV.bool true)
 else none) else none) else none) else none) else none))
 else none) else none) else none) else none) else none) else none) else none) else none) else none) else none) else none) else none) else none) else none) else none) else none) else none) else none) else none) else none) else none) := by
  kernel_rfl

theorem nfEOX1 {R : Type} (v d6 : Bool) (n at' bit more : Int) (d : List UInt8) (K : AV → Option R) :
 qrun Try.prog (tEO [] []) 100 5 [(29, .bool true)] [] 4 [.int .i64 n, .bool v, slB 0 d, .bool d6, .int .i64 at', .int .i64 bit, .int .i64 more] [farB d] (fun v _ => K v) =
 (if decide ((d.length : Int) > 200) = true then
 K (AV.bool true)
 else none) := by
  kernel_rfl

theorem nfEOX2 {R : Type} (v d6 : Bool) (n at' bit more : Int) (d : List UInt8) (K : AV → Option R) :
 qrun Try.prog (tEO [] []) 100 5 [(29, .bool false), (33, .bool true)] [] 4 [.int .i64 n, .bool v, slB 0 d, .bool d6, .int .i64 at', .int .i64 bit, .int .i64 more] [farB d] (fun v _ => K v) =
 (if decide ((d.length : Int) > 200) = false then
 (if decide (more < 1) = true then
 K (AV.bool true)
 else none) else none) := by
  kernel_rfl

theorem nfEOX3 {R : Type} (v d6 : Bool) (n at' bit more : Int) (d : List UInt8) (K : AV → Option R) :
 qrun Try.prog (tEO [] []) 100 5 [(29, .bool false), (33, .bool false), (36, .bool true)] [] 4 [.int .i64 n, .bool v, slB 0 d, .bool d6, .int .i64 at', .int .i64 bit, .int .i64 more] [farB d] (fun v _ => K v) =
 (if decide ((d.length : Int) > 200) = false then
 (if decide (more < 1) = false then
 (if decide (more > 20) = true then
 K (AV.bool true)
 else none) else none) else none) := by
  kernel_rfl


end Go.Proofs.Ytjkkhbeidhpghaa.L
