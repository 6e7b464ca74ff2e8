/- zkp that are built. -/
import Derived.Test.YtnchnjkakddhlaaOctB
import Derived.Test.YtnchnjkakddhlaaFour2
import Derived.Test.YtnchnjkakddhlaaSix2
import Derived.Test.YtnchnjkakddhlaaAddrB
set_option autoImplicit false
set_option linter.unusedVariables false
set_option linter.unusedSimpArgs false
namespace Go.Proofs.Ytnchnjkakddhlaa.L
open Go Go.Abs

def zaZ (sp dp : Int) (fl : UInt8) (C : Int) : List UInt8 := [u8i (sp / 256), u8i sp, u8i (dp / 256), u8i dp, 0, 0, 0, 0, 0, 0, 0, 0, 80, fl, 0, 0, u8i (C / 256), u8i C, 0, 0]
def zaY (sp dp n C : Int) : List UInt8 := [u8i (sp / 256), u8i sp, u8i (dp / 256), u8i dp, u8i (n / 256), u8i n, u8i (C / 256), u8i C]
def zbU (u : Bool) (sp dp : Int) (fl : UInt8) (C : Int) (d : List UInt8) : List UInt8 := if u = true then zaY sp dp (8 + d.length) C ++ d else zaZ sp dp fl C ++ d
def prt (u : Bool) : Int := if u = true then 17 else 6
def hdn (u : Bool) : Nat := if u = true then 8 else 20
theorem zaQ (u : Bool) (sp dp : Int) (fl : UInt8) (C : Int) (d : List UInt8) : (zbU u sp dp fl C d).length = hdn u + d.length := by
 unfold zbU hdn; split <;> simp [zaY, zaZ] <;> omega
def zbm (v u : Bool) (n : Int) (fl : UInt8) (d : List UInt8) : Int := zfX (zav (prt u) ((hdn u + d.length : Nat) : Int) (zbD v n) (zce v) ++ zbU u (zat n) 80 fl 0 d) 0
def zek (v u bare : Bool) (n : Int) (fl : UInt8) (d : List UInt8) : Int :=
 if u = true ∧ bare = true then 0 else if u = true ∧ 65535 - zbm v u n fl d = 0 then 65535 else 65535 - zbm v u n fl d
def zbn (v tag : Bool) : List UInt8 := [1, 2, 3, 4, 5, 6, 7, 8, 9, 10, 11, 12] ++ (if tag = true then [129, 0, 0, 7] else []) ++ (if v = true then [134, 221] else [8, 0])
def zo8 (v u : Bool) (n k : Int) : List UInt8 := if v = true then zgF (zbD true n) (zce true) (prt u) k else zgp (zbD false n) (zce false) (prt u) k
def zj0 (v u bare : Bool) (n : Int) (fl : UInt8) (d : List UInt8) : List UInt8 := zbU u (zat n) 80 fl (zek v u bare n fl d) d
def ze9 (v u tag bare : Bool) (n : Int) (fl : UInt8) (d : List UInt8) (pad : Nat) : List UInt8 := zbn v tag ++ zo8 v u n ((hdn u + d.length : Nat) : Int) ++ zj0 v u bare n fl d ++ List.replicate pad 0
def zkT (v u : Bool) (n : Int) : List AV := [.int .u8 (prt u)] ++ zbD v n ++ zce v ++ [.int .u16 (zat n), .int .u16 80]

theorem zcv (v u : Bool) (n : Int) (fl : UInt8) (d : List UInt8) : 0 ≤ zbm v u n fl d ∧ zbm v u n fl d < 65536 := zes _ _
theorem zdk (v u bare : Bool) (n : Int) (fl : UInt8) (d : List UInt8) : 0 ≤ zek v u bare n fl d ∧ zek v u bare n fl d < 65536 := by
 have := zcv v u n fl d
 unfold zek; split
 · omega
 · split <;> omega
theorem zwT {n : Nat} {l : List UInt8} (h : n = l.length) : List.take (n * 1) (bys l) = bys l := by subst h; exact zb6 l
theorem zaP {n : Nat} {l : List UInt8} {cs : List AV} (hc : cs = bys l) (h : n = l.length) : List.take (n * 1) cs = bys l := by subst hc; exact zwT h
theorem zbM {a b : List AV} {x y : List UInt8} (ha : a = bys x) (hb : b = bys y) : a ++ b = bys (x ++ y) := by subst ha hb; simp
theorem ziC {sp dp n C : Int} {d : List UInt8} (hC : 0 ≤ C) : zcz (zaY sp dp n 0 ++ d) ((6 : Nat) : Int) 2 C = zaY sp dp n C ++ d := by
 rw [zgd (by simp [zaY] <;> omega), Int.fdiv_eq_ediv_of_nonneg _ (by omega)]; rfl
theorem ziv {sp dp : Int} {fl : UInt8} {C : Int} {d : List UInt8} (hC : 0 ≤ C) : zcz (zaZ sp dp fl 0 ++ d) ((16 : Nat) : Int) 2 C = zaZ sp dp fl C ++ d := by
 rw [zgd (by simp [zaZ] <;> omega), Int.fdiv_eq_ediv_of_nonneg _ (by omega)]; rfl
theorem zco (v u : Bool) (n : Int) (k : Nat) (hk : k ≤ 60000) : (zo8 v u n k).length = if v = true then 40 else 20 := by
 unfold zo8
 cases v
 · rw [if_neg (by simp), if_neg (by simp)]
   unfold zgp
   rw [if_pos ⟨by rw [za9]; rfl, by rw [zbN]; rfl, by omega, by omega⟩]
   unfold zyM
   rw [zbH, za9, zbN, zcF, zcF]
   simp [zg5, zb8, zbA]
 · rw [if_pos rfl, if_pos rfl]
   unfold zgF
   rw [if_pos ⟨by rw [za9]; rfl, by rw [zbN]; rfl, by omega, by omega⟩, za9, zbN, zbY, zbY]
   simp [zb8, zbA]

def wk (n : Int) : Int := IntKind.i64.wrap (zad (some (AV.int IntKind.u16 (zat n))))
def w80 : Int := IntKind.i64.wrap (zad (some (AV.int IntKind.u16 80)))
theorem zz7 (n : Int) : wk n = zat n := zao (by show -9223372036854775808 ≤ zat n ∧ zat n < 9223372036854775808; have := zi5 n; omega)
theorem zv6 : w80 = 80 := zao (by show -9223372036854775808 ≤ (80 : Int) ∧ (80 : Int) < 9223372036854775808; omega)
def cU (n : Int) (d : List UInt8) : List AV := [b8 (IntKind.u8.wrap ((wk n).fdiv 256)), b8 (IntKind.u8.wrap (wk n)), b8 (IntKind.u8.wrap (w80.fdiv 256)), b8 (IntKind.u8.wrap w80), b8 (IntKind.u8.wrap ((IntKind.i64.wrap (8 + (d.length : Int))).fdiv 256)), b8 (IntKind.u8.wrap (IntKind.i64.wrap (8 + (d.length : Int)))), b8 0, b8 0] ++ List.take (d.length * 1) (bys d)
def cT (n : Int) (fl : UInt8) (d : List UInt8) : List AV := [b8 (IntKind.u8.wrap ((wk n).fdiv 256)), b8 (IntKind.u8.wrap (wk n)), b8 (IntKind.u8.wrap (w80.fdiv 256)), b8 (IntKind.u8.wrap w80), b8 0, b8 0, b8 0, b8 0, b8 0, b8 0, b8 0, b8 0, b8 80, b8 (fl.toNat : Int), b8 0, b8 0, b8 0, b8 0, b8 0, b8 0] ++ List.take (d.length * 1) (bys d)
def cE (v tag : Bool) : List AV := match v, tag with
 | false, false => [b8 1, b8 2, b8 3, b8 4, b8 5, b8 6, b8 7, b8 8, b8 9, b8 10, b8 11, b8 12, b8 8, b8 0]
 | false, true => [b8 1, b8 2, b8 3, b8 4, b8 5, b8 6, b8 7, b8 8, b8 9, b8 10, b8 11, b8 12, b8 129, b8 0, b8 0, b8 7, b8 8, b8 0]
 | true, false => [b8 1, b8 2, b8 3, b8 4, b8 5, b8 6, b8 7, b8 8, b8 9, b8 10, b8 11, b8 12, b8 134, b8 221]
 | true, true => [b8 1, b8 2, b8 3, b8 4, b8 5, b8 6, b8 7, b8 8, b8 9, b8 10, b8 11, b8 12, b8 129, b8 0, b8 0, b8 7, b8 134, b8 221]
theorem zcd (x : Int) : x.fdiv 256 = x / 256 := Int.fdiv_eq_ediv_of_nonneg _ (by omega)
theorem zvj (n : Int) (d : List UInt8) (hd : d.length ≤ 2000) : cU n d = bys (zaY (zat n) 80 (8 + d.length) 0 ++ d) := by
 have f4 : IntKind.i64.wrap (8 + (d.length : Int)) = 8 + (d.length : Int) := zao (by omega)
 unfold cU
 rw [zz7, zv6, f4, zb6]
 simp only [b8, zcd, zaH]; rfl
theorem zuN (n : Int) (fl : UInt8) (d : List UInt8) : cT n fl d = bys (zaZ (zat n) 80 fl 0 ++ d) := by
 unfold cT
 rw [zz7, zv6, zb6]
 simp only [b8, zcd, zaH]; rfl
theorem zl9 (v tag : Bool) : cE v tag = bys (zbn v tag) := by cases v <;> cases tag <;> rfl

end Go.Proofs.Ytnchnjkakddhlaa.L
