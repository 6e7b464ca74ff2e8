/- Frames that are built. -/
import Derived.Test.YtjkkhbeidhpghaaOctB
import Derived.Test.YtjkkhbeidhpghaaFour2
import Derived.Test.YtjkkhbeidhpghaaSix2
import Derived.Test.YtjkkhbeidhpghaaAddrB
set_option autoImplicit false
set_option linter.unusedVariables false
set_option linter.unusedSimpArgs false
namespace Go.Proofs.Ytjkkhbeidhpghaa.L
open Go Go.Abs

def tcpH (sp dp : Int) (fl : UInt8) (C : Int) : List UInt8 := [u8i (sp / 256), u8i sp, u8i (dp / 256), u8i dp, 0, 0, 0, 0, 0, 0, 0, 0, 80, fl, 0, 0, u8i (C / 256), u8i C, 0, 0]
def udpH (sp dp n C : Int) : List UInt8 := [u8i (sp / 256), u8i sp, u8i (dp / 256), u8i dp, u8i (n / 256), u8i n, u8i (C / 256), u8i C]
def segB (u : Bool) (sp dp : Int) (fl : UInt8) (C : Int) (d : List UInt8) : List UInt8 := if u = true then udpH sp dp (8 + d.length) C ++ d else tcpH sp dp fl C ++ d
def prt (u : Bool) : Int := if u = true then 17 else 6
def hdn (u : Bool) : Nat := if u = true then 8 else 20
theorem segB_length (u : Bool) (sp dp : Int) (fl : UInt8) (C : Int) (d : List UInt8) : (segB u sp dp fl C d).length = hdn u + d.length := by
  unfold segB hdn; split <;> simp [udpH, tcpH] <;> omega
def bldS (v u : Bool) (n : Int) (fl : UInt8) (d : List UInt8) : Int := sumI (pseudoL (prt u) ((hdn u + d.length : Nat) : Int) (kSrc v n) (kDst v) ++ segB u (kport n) 80 fl 0 d) 0
def bldC (v u bare : Bool) (n : Int) (fl : UInt8) (d : List UInt8) : Int :=
  if u = true ∧ bare = true then 0 else if u = true ∧ 65535 - bldS v u n fl d = 0 then 65535 else 65535 - bldS v u n fl d
def bldE (v tag : Bool) : List UInt8 := [1, 2, 3, 4, 5, 6, 7, 8, 9, 10, 11, 12] ++ (if tag = true then [129, 0, 0, 7] else []) ++ (if v = true then [134, 221] else [8, 0])
def bldH (v u : Bool) (n k : Int) : List UInt8 := if v = true then make6 (kSrc true n) (kDst true) (prt u) k else make4 (kSrc false n) (kDst false) (prt u) k
def bldG (v u bare : Bool) (n : Int) (fl : UInt8) (d : List UInt8) : List UInt8 := segB u (kport n) 80 fl (bldC v u bare n fl d) d
def bldF (v u tag bare : Bool) (n : Int) (fl : UInt8) (d : List UInt8) (pad : Nat) : List UInt8 := bldE v tag ++ bldH v u n ((hdn u + d.length : Nat) : Int) ++ bldG v u bare n fl d ++ List.replicate pad 0
def keyV (v u : Bool) (n : Int) : List AV := [.int .u8 (prt u)] ++ kSrc v n ++ kDst v ++ [.int .u16 (kport n), .int .u16 80]

theorem bldS_range (v u : Bool) (n : Int) (fl : UInt8) (d : List UInt8) : 0 ≤ bldS v u n fl d ∧ bldS v u n fl d < 65536 := sumI_range _ _
theorem bysTake {n : Nat} {l : List UInt8} (h : n = l.length) : List.take (n * 1) (bys l) = bys l := by subst h; exact bys_full l
theorem bysTake2 {n : Nat} {l : List UInt8} {cs : List AV} (hc : cs = bys l) (h : n = l.length) : List.take (n * 1) cs = bys l := by subst hc; exact bysTake h
theorem bysApp {a b : List AV} {x y : List UInt8} (ha : a = bys x) (hb : b = bys y) : a ++ b = bys (x ++ y) := by subst ha hb; simp
theorem udpH_put {sp dp n C : Int} {d : List UInt8} (hC : 0 ≤ C) : putR (udpH sp dp n 0 ++ d) ((6 : Nat) : Int) 2 C = udpH sp dp n C ++ d := by
  rw [putR_two (by simp [udpH] <;> omega), Int.fdiv_eq_ediv_of_nonneg _ (by omega)]; rfl
theorem tcpH_put {sp dp : Int} {fl : UInt8} {C : Int} {d : List UInt8} (hC : 0 ≤ C) : putR (tcpH sp dp fl 0 ++ d) ((16 : Nat) : Int) 2 C = tcpH sp dp fl C ++ d := by
  rw [putR_two (by simp [tcpH] <;> omega), Int.fdiv_eq_ediv_of_nonneg _ (by omega)]; rfl
theorem bldH_length (v u : Bool) (n : Int) (k : Nat) (hk : k ≤ 60000) : (bldH v u n k).length = if v = true then 40 else 20 := by
  unfold bldH
  cases v
  · rw [if_neg (by simp), if_neg (by simp)]
    unfold make4
    rw [if_pos ⟨by rw [kSrc_B]; rfl, by rw [kDst_B]; rfl, by omega, by omega⟩]
    unfold hdr4
    rw [setsUp_length, kSrc_B, kDst_B, adrB_F, adrB_F]
    simp [base4, kSrcB, kDstB]
  · rw [if_pos rfl, if_pos rfl]
    unfold make6
    rw [if_pos ⟨by rw [kSrc_B]; rfl, by rw [kDst_B]; rfl, by omega, by omega⟩, kSrc_B, kDst_B, adrB_T, adrB_T]
    simp [kSrcB, kDstB]

def wk (n : Int) : Int := IntKind.i64.wrap (intV (some (AV.int IntKind.u16 (kport n))))
def w80 : Int := IntKind.i64.wrap (intV (some (AV.int IntKind.u16 80)))
theorem wk_eq (n : Int) : wk n = kport n := wrapI64 (by show -9223372036854775808 ≤ kport n ∧ kport n < 9223372036854775808; have := kport_range n; omega)
theorem w80_eq : w80 = 80 := wrapI64 (by show -9223372036854775808 ≤ (80 : Int) ∧ (80 : Int) < 9223372036854775808; omega)
def cU (n : Int) (d : List UInt8) : List AV := [b8 (IntKind.u8.wrap ((wk n).fdiv 256)), b8 (IntKind.u8.wrap (wk n)), b8 (IntKind.u8.wrap (w80.fdiv 256)), b8 (IntKind.u8.wrap w80), b8 (IntKind.u8.wrap ((IntKind.i64.wrap (8 + (d.length : Int))).fdiv 256)), b8 (IntKind.u8.wrap (IntKind.i64.wrap (8 + (d.length : Int)))), b8 0, b8 0] ++ List.take (d.length * 1) (bys d)
def cT (n : Int) (fl : UInt8) (d : List UInt8) : List AV := [b8 (IntKind.u8.wrap ((wk n).fdiv 256)), b8 (IntKind.u8.wrap (wk n)), b8 (IntKind.u8.wrap (w80.fdiv 256)), b8 (IntKind.u8.wrap w80), b8 0, b8 0, b8 0, b8 0, b8 0, b8 0, b8 0, b8 0, b8 80, b8 (fl.toNat : Int), b8 0, b8 0, b8 0, b8 0, b8 0, b8 0] ++ List.take (d.length * 1) (bys d)
def cE (v tag : Bool) : List AV := match v, tag with
  | false, false => [b8 1, b8 2, b8 3, b8 4, b8 5, b8 6, b8 7, b8 8, b8 9, b8 10, b8 11, b8 12, b8 8, b8 0]
  | false, true => [b8 1, b8 2, b8 3, b8 4, b8 5, b8 6, b8 7, b8 8, b8 9, b8 10, b8 11, b8 12, b8 129, b8 0, b8 0, b8 7, b8 8, b8 0]
  | true, false => [b8 1, b8 2, b8 3, b8 4, b8 5, b8 6, b8 7, b8 8, b8 9, b8 10, b8 11, b8 12, b8 134, b8 221]
  | true, true => [b8 1, b8 2, b8 3, b8 4, b8 5, b8 6, b8 7, b8 8, b8 9, b8 10, b8 11, b8 12, b8 129, b8 0, b8 0, b8 7, b8 134, b8 221]
theorem fdiv256 (x : Int) : x.fdiv 256 = x / 256 := Int.fdiv_eq_ediv_of_nonneg _ (by omega)
theorem cU_eq (n : Int) (d : List UInt8) (hd : d.length ≤ 2000) : cU n d = bys (udpH (kport n) 80 (8 + d.length) 0 ++ d) := by
  have f4 : IntKind.i64.wrap (8 + (d.length : Int)) = 8 + (d.length : Int) := wrapI64 (by omega)
  unfold cU
  rw [wk_eq, w80_eq, f4, bys_full]
  simp only [b8, fdiv256, wrapU8_byte]; rfl
theorem cT_eq (n : Int) (fl : UInt8) (d : List UInt8) : cT n fl d = bys (tcpH (kport n) 80 fl 0 ++ d) := by
  unfold cT
  rw [wk_eq, w80_eq, bys_full]
  simp only [b8, fdiv256, wrapU8_byte]; rfl
theorem cE_eq (v tag : Bool) : cE v tag = bys (bldE v tag) := by cases v <;> cases tag <;> rfl

end Go.Proofs.Ytjkkhbeidhpghaa.L
