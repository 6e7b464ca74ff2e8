/- Texts that stand together: Oct, Clone, Be16, Put16, Sums, Change, RSums, Net, FrameKit, Seg, Says. -/
import Derived.Test.YtnchnjkakddhlaaProg
import Derived.Test.YtnchnjkakddhlaaBase
import Derived.Test.YtnchnjkakddhlaaAddrB
section
/- octet's Get. -/
set_option autoImplicit false
set_option maxRecDepth 100000
set_option linter.unusedVariables false
set_option linter.unusedSimpArgs false
namespace Go.Proofs.Ytnchnjkakddhlaa.L
open Go Go.Abs
open Go.IntKind (u8 u16 u32 u64 i64)
open Go.Abs.AV (int)
open Go.Abs.ABlk (cells)

def zAk (k : Nat) : List Bool := List.replicate 7 false ++ [true] ++ List.replicate 13 false ++ [true, true, true] ++ List.replicate k false
def zyG (x : Int) (p n r : Nat) (m i : Int) : List AV := [.int .u64 x, .sl (some (0, p)) n r false, .int .i64 m, .int .i64 i]

def zyP (k : IntKind) (sz : Nat) (l : List UInt8) (p : Int) : AV :=
 .tup [.int k (if 0 ≤ p ∧ p + sz ≤ l.length then zbv l p.toNat sz else 0), .bool (decide (0 ≤ p ∧ p + sz ≤ l.length))]


theorem zoq (CALL : CallT) (l : List UInt8) (x : Int) (p n r : Nat) (m i : Int) : zbR Try.prog CALL zid (zb2 (zaB Try.prog 43) 0) (zAk 11) (zyG x p n r m i) [zaC l] =
 if decide (i < m) = true then
 (if 0 ≤ i ∧ i < (n : Int) then
 (if zaI .u8 (bys l)[p + i.toNat * 1]? = true then
 some (.norm, zyG (zaU .u64 (· ||| ·) (u64.wrap (x * 256)) (u64.wrap (zad (bys l)[p + i.toNat * 1]?))) p n r m (i64.wrap (i + 1)), [zaC l])
 else none) else none)
    else some (.exit 0, zyG x p n r m i, [zaC l]) := by kernel_rfl

noncomputable def zoL : zpr := fun vs h => match vs, h with
 | [.int .u64 x, .sl (some (0, p)) n r false, .int .i64 m, .int .i64 i], [.cells vs e .far none] =>
  some (zaE (x = 0 ∧ n = 2 ∧ m = 2 ∧ i = 0 ∧ e = 1 ∧ ∃ l, vs = bys l ∧ p + 2 ≤ l.length), .exit 0, zyG (zbv (vs.map zaA) p 2) p n r 2 2, [.cells vs e .far none])
 | _, _ => none

theorem zqQ : zcy Try.prog (zng (zAk 11) zoL) (zb2 (zaB Try.prog 43) 0) := by
 have SC : zcg Try.prog (za5 Try.prog [] 100 4) := zdq (zar _) 100 4
 refine @ziU Try.prog (za5 Try.prog [] 100 4) SC zid (zb2 (zaB Try.prog 43) 0) (zeq (by kernel_rfl)) (zAk 11) zoL fun vs h e vs' h' hg => ?_
 unfold zoL at hg
 split at hg
 · rename_i x p n r m i vs e
   simp only [Option.some.injEq, Prod.mk.injEq] at hg
   obtain ⟨hc, rfl, rfl, rfl⟩ := hg
   rw [zab] at hc
   obtain ⟨rfl, rfl, rfl, rfl, rfl, l, rfl, hl⟩ := hc
   rw [zba]
   have := znO (body := zbR Try.prog (za5 Try.prog [] 100 4) zid (zb2 (zaB Try.prog 43) 0) (zAk 11)) (fun i => (zyG (zbv l p i) p 2 r 2 i, [zaC l])) (n := 2) (e := .exit 0) (vs := zyG (zbv l p 2) p 2 r 2 2) (h := [zaC l]) (by simp)
    (fun i hi => by
     simp only [zoq]
     have hr := ziL l p i
     have hp : (256 : Int) ^ i ≤ 256 ^ 1 := by
      rw [show (256 : Int) = ((256 : Nat) : Int) from rfl, ← Int.natCast_pow, ← Int.natCast_pow]
      exact Int.ofNat_le.2 (Nat.pow_le_pow_right (by omega) (by omega))
     have hb := zaS l (p + i)
     rw [if_pos (by simp; omega), if_pos (by omega)]
     have e1 : p + (i : Int).toNat * 1 = p + i := by omega
     rw [e1, zbk, zay, if_pos (by simp; omega), zaM, zBt ⟨hr.1, by omega⟩ hb, ← zhv (by omega), zao (by omega)]
     rfl)
    (by
     simp only [zoq]
     rw [if_neg (by simp)]
     rfl)
   simp only [zka] at this
   exact this
 · simp at hg

noncomputable def zrB : List (Nat × LoopF) := [(6, zng (zAk 11) zoL)]

theorem zw9 : SoundE Try.prog 43 (zAb Try.prog [] 100 4 zrB 43) := by
 refine znv (zar _) 100 4 (fun b hb _ => ?_) zqQ
 have : za0 (zaB Try.prog 43) = [zb2 (zaB Try.prog 43) 0] := by kernel_rfl
 rw [this] at hb
 simpa using hb

theorem zx8 {R : Type} (l : List UInt8) (p : Int) (K : AV → zaa → Option R) : zch Try.prog (za5 Try.prog [] 100 4) (zdF zrB (zbL Try.prog (za5 Try.prog [] 100 4) 100 4 (zaB Try.prog 43))) 43 [slB 0 l, .int .i64 p] [zaC l] K =
 if decide (p ≥ 0) = true then
 (if decide (p ≤ (l.length : Int)) = true then
 (if (!decide (i64.wrap ((l.length : Int) - p) ≥ 2)) = true then K (.tup [.int .u16 0, .bool false]) [zaC l]
 else (if 0 ≤ i64.wrap (p + 2) ∧ i64.wrap (p + 2) ≤ (zai l.length 0 false : Int) then
 (if 0 ≤ p ∧ p ≤ i64.wrap (p + 2) then
 (if zaE ((0 : Int) = 0 ∧ (i64.wrap (p + 2)).toNat - p.toNat = 2 ∧ (((i64.wrap (p + 2)).toNat - p.toNat : Nat) : Int) = 2 ∧ (0 : Int) = 0 ∧ 1 = 1 ∧ ∃ l_1, bys l = bys l_1 ∧ 0 + p.toNat * 1 + 2 ≤ l_1.length) = true then
 K (.tup [.int .u16 (u16.wrap (zbv (List.map zaA (bys l)) (0 + p.toNat * 1) 2)), .bool true]) [zaC l]
 else none) else none) else none))
 else K (.tup [.int .u16 0, .bool false]) [zaC l])
    else K (.tup [.int .u16 0, .bool false]) [zaC l] := by kernel_rfl

noncomputable def zif : zdD := fun args h => match args with
 | [b, .int .i64 p] => some (bOk h b && decide ((nOf b : Int) < 9223372036854775000), zyP .u16 2 (bOf h b) p, h)
 | _ => none

theorem zkD : SoundE Try.prog 43 (zbj zif) := by
 refine zig fun args h v h' hg => ?_
 unfold zif at hg
 split at hg
 · rename_i b p
   simp only [Option.some.injEq, Prod.mk.injEq, Bool.and_eq_true, decide_eq_true_eq] at hg
   obtain ⟨⟨hb, hn⟩, rfl, rfl⟩ := hg
   have hlen := zbt hb
   refine ⟨_, zw9, [slB 0 (bOf h b), .int .i64 p], [zaC (bOf h b)], .cons _ _ _ _ _ _ _ (zaJ hb 0) (.cons _ _ _ _ _ _ _ (.flat _ _ rfl) (.nil _)), zyP .u16 2 (bOf h b) p, [zaC (bOf h b)], ?_, [], [], by simp, .flat _ _ rfl, zAg⟩
   generalize bOf h b = l at hlen
   rw [zuB, zx8]
   have hr := ziL l p.toNat 2
   unfold zyP
   by_cases h0 : 0 ≤ p
   · rw [if_pos (by simpa using h0)]
     by_cases h1 : p ≤ (l.length : Int)
     · rw [if_pos (by simpa using h1), zao (n := (l.length : Int) - p) (by omega)]
       by_cases h2 : p + 2 ≤ (l.length : Int)
       · have e : i64.wrap (p + 2) = p + 2 := zao (by omega)
         have e1 : 0 + p.toNat * 1 = p.toNat := by omega
         have hc : (0 ≤ p ∧ p + ((2 : Nat) : Int) ≤ (l.length : Int)) := ⟨h0, by omega⟩
         rw [if_neg (by simp; omega), e, if_pos (by simp [zai]; omega), if_pos (by omega), if_pos (zab.2 ⟨rfl, by omega, by omega, rfl, rfl, l, rfl, by omega⟩), zba, e1, if_pos hc, decide_eq_true hc, zb7 (by omega)]
       · have hc : ¬ (0 ≤ p ∧ p + ((2 : Nat) : Int) ≤ (l.length : Int)) := by omega
         rw [if_pos (by simp; omega), if_neg hc, decide_eq_false hc]
     · have hc : ¬ (0 ≤ p ∧ p + ((2 : Nat) : Int) ≤ (l.length : Int)) := by omega
       rw [if_neg (by simpa using h1), if_neg hc, decide_eq_false hc]
   · have hc : ¬ (0 ≤ p ∧ p + ((2 : Nat) : Int) ≤ (l.length : Int)) := by omega
     rw [if_neg (by simpa using h0), if_neg hc, decide_eq_false hc]
 · simp at hg


end Go.Proofs.Ytnchnjkakddhlaa.L

end

section
/- slices.Clone of bytes. -/
set_option autoImplicit false
set_option maxRecDepth 100000
set_option linter.unusedVariables false
set_option linter.unusedSimpArgs false
namespace Go.Proofs.Ytnchnjkakddhlaa.L
open Go Go.Abs
open Go.IntKind (u8 u16 u32 u64 i64)
open Go.Abs.AV (int)
open Go.Abs.ABlk (cells)

theorem zw5 {R : Type} (l : List UInt8) (c : Nat) (K : AV → zaa → Option R) : zch Try.prog (za5 Try.prog [] 100 0) zid 22 [.sl (some (0, 0)) l.length c true] [zaC l] K =
 (if 0 + l.length * 1 ≤ (bys l).length then
 (if (2 * (0 + l.length) + 200) * 1 ≤ 281474976710656 ∧ some 1 = some 1 ∧ 0 + l.length ≤ 70368744177664 then
 (if 0 = 0 ∧ 0 = 0 ∧ (0 < l.length ∨ 0 = 0) ∧ 1 = 1 ∧ (List.take (l.length * 1) (bys l)).all AV.isCell = true then
 K (AV.sl (some (2, 0)) (0 + l.length) 0 false) [zaC l, cells (zex 0 [int u8 0]) 1 Md.ro none, cells (List.take 0 (zex 0 [int u8 0]) ++ List.take (l.length * 1) (bys l)) 1 Md.own (some 1)]
 else none) else none)
    else none) := by kernel_rfl
theorem zvY {R : Type} (K : AV → zaa → Option R) : zch Try.prog (za5 Try.prog [] 100 0) zid 22 [.sl none 0 0 true] [] K = K (.sl none 0 0 true) [] := by kernel_rfl

theorem zz5 {σ : Sig} {i o l c : Nat} {e : Bool} {v : Value} (h : VR σ (.sl (some (i, o)) l c e) v) : (v = .slice none 0 0 ∧ l = 0) ∨
 ∃ p a c', v = .slice (some a) l c' ∧ σ[i]? = some p ∧ l ≤ c' ∧ (a = ⟨p.blk, p.off + o, none⟩ ∨ c' = 0) := by
 cases h with
 | sln => exact .inl ⟨rfl, rfl⟩
 | sl _ _ _ _ _ p ad c' hp hl hc hadr => exact .inr ⟨p, ad, c', rfl, hp, hl, hadr⟩

theorem zpO : za0 (zaB Try.prog 22) = [] := by kernel_rfl

def zdB : zdD := fun args h => match args with
 | [b] => some (bOk h b && decide (nOf b ≤ 1000000000000), slB h.length (bOf h b), h ++ [zbo (bOf h b)])
 | _ => none

theorem zoJ : SoundE Try.prog 22 (zbj zdB) := by
 intro W0 σ h w args args' v h' hx R hv
 replace hx := zix hx
 unfold zdB at hx
 split at hx
 · rename_i b
   simp only [Option.some.injEq, Prod.mk.injEq, Bool.and_eq_true, decide_eq_true_eq] at hx
   obtain ⟨⟨hb, hn⟩, rfl, rfl⟩ := hx
   have hlen := zbt hb
   have SC : zcg Try.prog (za5 Try.prog [] 100 0) := zdq (zar _) 100 0
   have hE : SoundE Try.prog 22 (zk0 Try.prog (za5 Try.prog [] 100 0) zid 22) := zeA SC (zuu zpO)
   obtain ⟨τ0, A0, hv0⟩ := (Canons.cons 0 b [] _ [] _ [] (zaJ hb 0) (.nil _)).sim R hv [] rfl
   rw [List.nil_append] at hv0 A0
   have R1 := ztI A0
   generalize bOf h b = l at *
   generalize hal : args'.toList = al at *
   cases hv0 with
   | cons _ v0 _ m hv0 hm =>
   cases hm
   rcases zz5 hv0 with ⟨rfl, hl0⟩ | ⟨p, ad, c', rfl, hp, hl, hadr⟩
   · have : l = [] := List.eq_nil_of_length_eq_zero hl0
     subst this
     exact zhR hE R (Rel.nothing w) (args1 := [.sl none 0 0 true]) (by rw [hal]; exact .cons _ _ _ _ (.sl0 true) .nil) (by rw [zfD, zvY]) (n0 := 0) zqf (zdJ none)
   · refine zhR hE R R1 (args1 := [.sl (some (0, 0)) l.length c' true]) (by rw [hal]; exact .cons _ _ _ _ (.sl _ _ _ _ _ p _ c' hp hl (by simp [zai]) hadr) .nil) (by
       rw [zfD]
       refine (zw5 l c' _).trans ?_
       rw [if_pos (by simp), if_pos ⟨by omega, rfl, by omega⟩, if_pos ⟨rfl, rfl, .inr rfl, rfl, by simp⟩]) (n0 := 1) (zug (k := 2) (by omega) rfl ?_ ?_) (zdJ _)
     · simp [zex]
     · omega
 · simp at hx

end Go.Proofs.Ytnchnjkakddhlaa.L

end

section
/- The reference's Be16. -/
set_option autoImplicit false
set_option maxRecDepth 100000
set_option linter.unusedVariables false
set_option linter.unusedSimpArgs false
namespace Go.Proofs.Ytnchnjkakddhlaa.L
open Go Go.Abs
open Go.IntKind (u8 u16 u32 u64 i64)
open Go.Abs.AV (int)
open Go.Abs.ABlk (cells)


theorem zAT {a b : Int} (ha : 0 ≤ a ∧ a < 256) (hb : 0 ≤ b ∧ b < 256) : zaU .i64 (· ||| ·) (i64.wrap (i64.wrap a * 256)) (i64.wrap b) = a * 256 + b := by
 rw [zao (n := a) (by omega), zao (by omega), zao (by omega)]
 obtain ⟨x, rfl⟩ := Int.eq_ofNat_of_zero_le ha.1
 obtain ⟨y, rfl⟩ := Int.eq_ofNat_of_zero_le hb.1
 show i64.wrap ((BitVec.ofInt 64 ((x : Int) * 256) ||| BitVec.ofInt 64 (y : Int)).toNat : Int) = _
 have e : ((x : Int) * 256) = ((x * 256 : Nat) : Int) := by omega
 rw [e, BitVec.toNat_or, zdf 64 (x * 256) (by omega), zdf 64 y (by omega)]
 have : x * 256 ||| y = x * 256 + y := by
  have := Nat.two_pow_add_eq_or_of_lt (i := 8) (b := y) (by omega) x
  rw [Nat.mul_comm x 256, show (256 : Nat) = 2 ^ 8 by rfl, ← this]
 rw [this, zao (by omega)]
 omega

def ziJ : zdD := fun args h => match args with
 | [b, .int .i64 i] => some (bOk h b && decide (nOf b ≤ 70368744177664 ∧ 0 ≤ i ∧ i + 2 ≤ (nOf b : Int)), .int .i64 (zan (bOf h b) i.toNat), h)
 | _ => none

theorem zyV {R : Type} (l : List UInt8) (i : Int) (K : AV → Option R) : zch Try.prog (za5 Try.prog [] 100 4) (zdF [] (zbL Try.prog (za5 Try.prog [] 100 4) 100 4 (zaB Try.prog 50))) 50 [slB 0 l, .int .i64 i] [zaC l] (fun v _ => K v) =
 (if 0 ≤ i ∧ i < (l.length : Int) then
 (if zaI .u8 (bys l)[0 + i.toNat * 1]? = true then
 (if 0 ≤ i64.wrap (i + 1) ∧ i64.wrap (i + 1) < (l.length : Int) then
 (if zaI .u8 (bys l)[0 + (i64.wrap (i + 1)).toNat * 1]? = true then
 K (.int .i64 (zaU .i64 (· ||| ·) (i64.wrap (i64.wrap (zad (bys l)[0 + i.toNat * 1]?) * 256)) (i64.wrap (zad (bys l)[0 + (i64.wrap (i + 1)).toNat * 1]?))))
 else none) else none) else none) else none) := by
  kernel_rfl

theorem zqK : SoundE Try.prog 50 (zbj ziJ) := by
 refine zax fun args h v h' hg => ?_
 unfold ziJ at hg
 split at hg
 · rename_i b i
   simp only [Option.some.injEq, Prod.mk.injEq, Bool.and_eq_true, decide_eq_true_eq] at hg
   obtain ⟨⟨hb, hn, h0, h2⟩, rfl, rfl⟩ := hg
   refine ⟨rfl, rfl, [slB 0 (bOf h b), .int .i64 i], [zaC (bOf h b)], .cons _ _ _ _ _ _ _ (zaJ hb 0) (.cons _ _ _ _ _ _ _ (.flat _ _ rfl) (.nil _)), ?_⟩
   rw [← zbt hb] at hn h2
   generalize bOf h b = l at hn h2
   refine Runs.val0 (zar _) (F := 100) (n := 4) ?_
   have e1 : 0 + i.toNat * 1 = i.toNat := by omega
   have e2 : i64.wrap (i + 1) = i + 1 := zao (by omega)
   have e3 : 0 + (i + 1).toNat * 1 = i.toNat + 1 := by omega
   rw [zyV, e2, e1, e3, if_pos (by omega), zbk, zay, if_pos (by simp; omega), if_pos (by omega), zbk, zay, if_pos (by simp; omega), zaM, zaM, zAT (zaS _ _) (zaS _ _)]
   rfl
 · simp at hg

end Go.Proofs.Ytnchnjkakddhlaa.L

end

section
/- octet's Put and Append. -/
set_option autoImplicit false
set_option maxRecDepth 100000
set_option linter.unusedVariables false
set_option linter.unusedSimpArgs false
namespace Go.Proofs.Ytnchnjkakddhlaa.L
open Go Go.Abs
open Go.IntKind (u8 u16 u32 u64 i64)
open Go.Abs.AV (int)
open Go.Abs.ABlk (cells)

noncomputable def zlo (l : List UInt8) (p v : Int) : zaa := [cells (bys l) 1 Md.own none]
noncomputable def zrL (l : List UInt8) (p v : Int) : zaa := [cells (zae (zae (bys l) (0 + (i64.wrap (p + 1)).toNat * 1) [int u8 (u8.wrap (u64.wrap v))]) (0 + (i64.wrap (p + 0)).toNat * 1) [int u8 (u8.wrap ((u64.wrap v).fdiv 256))]) 1 Md.own none]
theorem zx1 {R : Type} (l : List UInt8) (p v : Int) (K : AV → zaa → Option R) :
 zbs Try.prog [] 100 4 [] [] 44 [slB 0 l, .int .i64 p, .int .u16 v] [zbo l] K =
 (if decide (p ≥ 0) = true then
 (if decide (p ≤ (l.length : Int)) = true then
 (if (!decide (i64.wrap ((l.length : Int) - p) ≥ 2)) = true then
 K (AV.bool false) ((zlo l p v))
 else (if 0 ≤ i64.wrap (p + 1) ∧ i64.wrap (p + 1) < (l.length : Int) then
 (if 0 + (i64.wrap (p + 1)).toNat * 1 + [int u8 (u8.wrap (u64.wrap v))].length ≤ (bys l).length ∧ [int u8 (u8.wrap (u64.wrap v))].all AV.isCell = true then
 (if 0 ≤ i64.wrap (p + 0) ∧ i64.wrap (p + 0) < (l.length : Int) then
 (if 0 + (i64.wrap (p + 0)).toNat * 1 + [int u8 (u8.wrap ((u64.wrap v).fdiv 256))].length ≤ (zae (bys l) (0 + (i64.wrap (p + 1)).toNat * 1) [int u8 (u8.wrap (u64.wrap v))]).length ∧ [int u8 (u8.wrap ((u64.wrap v).fdiv 256))].all AV.isCell = true then
 K (AV.bool true) ((zrL l p v))
 else none) else none) else none) else none))
 else K (AV.bool false) ((zlo l p v)))
 else K (AV.bool false) ((zlo l p v))) := by
  kernel_rfl


theorem zvT (l : List UInt8) (p v : Int) (hl : l.length ≤ 1000000000000) (hv : 0 ≤ v ∧ v < 256 ^ 2) : Runs Try.prog 44 [slB 0 l, .int .i64 p, .int .u16 v] [zbo l] (.bool (decide (0 ≤ p ∧ p + 2 ≤ (l.length : Int)))) [zbo (zcz l p 2 v)] := by
 refine Runs.ofT0 (zar _) (F := 100) (n := 4) (pr := []) ?_
 rw [zx1]
 by_cases h : 0 ≤ p ∧ p + 2 ≤ (l.length : Int)
 · obtain ⟨q, rfl⟩ := Int.eq_ofNat_of_zero_le h.1
   rw [decide_eq_true h, zcz, if_pos (c := 0 ≤ (q : Int) ∧ (q : Int) + ((2 : Nat) : Int) ≤ (l.length : Int)) ⟨h.1, by omega⟩]
   have w1 : i64.wrap ((l.length : Int) - q) = l.length - q := zao (by omega)
   have hq : q ≤ 1000000000000 := by omega
   have wv : u64.wrap v = v := zbG (by omega)
   have a0 : i64.wrap ((q : Int) + 0) = ((q + 0 : Nat) : Int) := zBi q 0 0 rfl hq (by decide)
   have b0 : 0 + ((q + 0 : Nat) : Int).toNat * 1 = q + 0 := zBd q 0
   have a1 : i64.wrap ((q : Int) + 1) = ((q + 1 : Nat) : Int) := zBi q 1 1 rfl hq (by decide)
   have b1 : 0 + ((q + 1 : Nat) : Int).toNat * 1 = q + 1 := zBd q 1
   unfold zlo zrL
   rw [w1, wv]
   simp only [a0, a1, b0, b1, ze0]
   clear a0 b0 a1 b1 wv hv
   refine (if_pos (by simp)).trans ?_
   refine (if_pos (by simp; omega)).trans ?_
   refine (if_neg (by simp; omega)).trans ?_
   repeat (first | (refine (if_pos ?_).trans ?_; · first | (simp only [zak, zah, List.length_cons, List.length_nil, List.length_set, List.all_cons, List.all_nil, zp0, Bool.and_self, and_true]; omega) | omega))
   have e := zjf 2 l q v (by omega)
   simp only [Int.toNat_natCast]
   rw [← e]
   simp only [zg0]
 · rw [decide_eq_false h, zcz, if_neg (c := 0 ≤ p ∧ p + ((2 : Nat) : Int) ≤ (l.length : Int)) (by omega)]
   by_cases h0 : 0 ≤ p
   · refine (if_pos (by simpa using h0)).trans ?_
     by_cases h1 : p ≤ (l.length : Int)
     · have w1 : i64.wrap ((l.length : Int) - p) = l.length - p := zao (by omega)
       rw [w1]
       refine (if_pos (by simpa using h1)).trans ?_
       exact if_pos (by simp; omega)
     · exact if_neg (by simpa using h1)
   · exact if_neg (by simpa using h0)

noncomputable def zeE : zdD := fun args h => match args with
 | [.sl (some (i, o)) n r e, .int .i64 p, .int .u16 v] => match h[i]? with
  | some (.cells vs esz .own par) => some (zaE (o = 0 ∧ r = 0 ∧ e = false ∧ esz = 1 ∧ n = vs.length ∧ n ≤ 1000000000000 ∧ vs.all zbC = true ∧ 0 ≤ v ∧ v < 256 ^ 2 ∧ par ≠ some i),
   .bool (decide (0 ≤ p ∧ p + 2 ≤ (n : Int))), (zc4 h par).set i (zbo (zcz (vs.map zaA) p 2 v)))
  | _ => none
 | _ => none

theorem zwD : SoundE Try.prog 44 (zbj zeE) := by
 refine znS fun args h v h' hg => ?_
 unfold zeE at hg
 split at hg
 · rename_i i o n r e p x
   split at hg
   · rename_i vs esz par hb
     simp only [Option.some.injEq, Prod.mk.injEq] at hg
     obtain ⟨hc, rfl, rfl⟩ := hg
     rw [zab] at hc
     obtain ⟨rfl, rfl, rfl, rfl, rfl, hn, hv, hx0, hx1, hpar⟩ := hc
     have hvs := zfa hv
     generalize vs.map zaA = l at hvs
     subst hvs
     rw [zah] at hn ⊢
     exact ztu (args := fun i => [.sl (some (i, 0)) l.length 0 false, .int .i64 p, .int .u16 x]) hb hpar (fun _ _ hr => .cons _ _ _ _ (.sl _ _ _ _ _ _ hr) (.free _ rfl)) (zvT l p x hn ⟨hx0, hx1⟩) (zi9 _) rfl
   · simp at hg
 · simp at hg


end Go.Proofs.Ytnchnjkakddhlaa.L

end

section
/- chksum: fold, Update, Sum. -/
set_option autoImplicit false
set_option maxRecDepth 100000
set_option linter.unusedVariables false
set_option linter.unusedSimpArgs false
namespace Go.Proofs.Ytnchnjkakddhlaa.L
open Go Go.Abs
open Go.IntKind (u8 u16 u32 u64 i64)
open Go.Abs.AV (int)
open Go.Abs.ABlk (cells)

theorem zu2 (F n : Nat) : zcg Try.prog (za5 Try.prog [] F n) := zdq (zar _) F n


def zv2 : List Bool := [true, false, false, false, false, false, false, false, false, false, false, false, false]

theorem zs5 (CALL : CallT) (n : Int) (h : zaa) : zbR Try.prog CALL zid (zb2 (zaB Try.prog 62) 0) zv2 [.int .u64 n] h =
 if decide (n.fdiv 65536 > 0) = true then some (.norm, [.int .u64 (u64.wrap (zaU .u64 (· &&& ·) n 65535 + n.fdiv 65536))], h) else some (.exit 0, [.int .u64 n], h) := by
  kernel_rfl

theorem zvx (h : zaa) : ∀ (k : Nat) (n : Int), n.toNat = k → 0 ≤ n → n < 9223372036854775808 → ∃ j, zd7 (zbR Try.prog (za5 Try.prog [] 100 4) zid (zb2 (zaB Try.prog 62) 0) zv2) j [.int .u64 n] h = some (.exit 0, [.int .u64 (zcE n)], h) := by
 intro k
 induction k using Nat.strongRecOn with
 | _ k ih =>
  intro n hk h0 h1
  by_cases hb : n < 65536
  · refine ⟨1, ?_⟩
    have hd : ¬ (n.fdiv 65536 > 0) := by rw [zlB]; omega
    simp only [zd7, zs5, decide_eq_true_eq, if_neg hd, Option.bind_some]
    rw [zjz ⟨h0, hb⟩]
  · have hd : n.fdiv 65536 > 0 := by rw [zlB]; omega
    have e : u64.wrap (zaU .u64 (· &&& ·) n 65535 + n.fdiv 65536) = n % 65536 + n / 65536 := by
     rw [zzi (by omega), zlB, zbG (by omega)]
    obtain ⟨j, hj⟩ := ih (n % 65536 + n / 65536).toNat (by omega) _ rfl (by omega) (by omega)
    refine ⟨j + 1, ?_⟩
    simp only [zd7, zs5, decide_eq_true_eq, if_pos hd, Option.bind_some, e]
    rw [hj, zj3 h0]

def zva : zdD := fun args h => match args with
 | [.int .u64 n] => some (decide (0 ≤ n ∧ n < 9223372036854775808), .int .u16 (zcE n), h)
 | _ => none

theorem zzu : SoundE Try.prog 62 (zbj zva) := by
 refine zax fun args h v h' hg => ?_
 unfold zva at hg
 split at hg
 · rename_i n
   simp only [Option.some.injEq, Prod.mk.injEq, decide_eq_true_eq] at hg
   obtain ⟨⟨h0, h1⟩, rfl, rfl⟩ := hg
   refine ⟨rfl, rfl, [.int .u64 n], [], .cons _ _ _ _ _ _ _ (.flat _ _ rfl) (.nil _), ?_⟩
   refine Runs.val (zar _) (F := 100) (n := 4) (ls := [(1, zvr zv2 [.int .u64 n] [] (.exit 0) [.int .u64 (zcE n)] [])]) (only (by kernel_rfl) ?_) ?_
   · exact zeJ (zu2 100 4) (LS := zid) (zeq (by kernel_rfl)) (zvx [] _ n rfl h0 h1)
   · have : zch Try.prog (za5 Try.prog [] 100 4) (zdF [(1, zvr zv2 [.int .u64 n] [] (.exit 0) [.int .u64 (zcE n)] [])] (zbL Try.prog (za5 Try.prog [] 100 4) 100 4 (zaB Try.prog 62))) 62 [.int .u64 n] [] (fun v _ => some v) =
         if zaE ([AV.int .u64 n] = [.int .u64 n] ∧ ([] : zaa) = []) = true then some (.int .u16 (u16.wrap (zcE n))) else none := by kernel_rfl
     rw [this, if_pos (zab.2 ⟨rfl, rfl⟩), zb7 (zcR n)]
 · simp at hg


def zfH : zdD := fun args h => match args with
 | [.int .u16 o, .int .u16 f, .int .u16 t] => some (decide ((0 ≤ o ∧ o < 65536) ∧ (0 ≤ f ∧ f < 65536) ∧ (0 ≤ t ∧ t < 65536)), .int .u16 (zfJ o f t), h)
 | _ => none

noncomputable def zya : Tbl := [(62, zbj zva)]
theorem zxf : ∀ f E, zya.find f = some E → SoundE Try.prog f E := zal zzu (zar _)

theorem zuS {R : Type} (o f t : Int) (K : AV → Option R) : zch Try.prog (za5 Try.prog zya 100 4) (zdF [] (zbL Try.prog (za5 Try.prog zya 100 4) 100 4 (zaB Try.prog 49))) 49 [.int .u16 o, .int .u16 f, .int .u16 t] [] (fun v _ => K v) =
 (let x := u64.wrap (u64.wrap (u64.wrap (zaU .u16 (· ^^^ ·) 65535 o) + u64.wrap (zaU .u16 (· ^^^ ·) 65535 f)) + u64.wrap t)
 if decide (0 ≤ x ∧ x < 9223372036854775808) = true then K (.int .u16 (zaU .u16 (· ^^^ ·) 65535 (zcE x))) else none) := by
  kernel_rfl

theorem ztX : SoundE Try.prog 49 (zbj zfH) := by
 refine zax fun args h v h' hg => ?_
 unfold zfH at hg
 split at hg
 · rename_i o f t
   simp only [Option.some.injEq, Prod.mk.injEq, decide_eq_true_eq] at hg
   obtain ⟨⟨ho, hf, ht⟩, rfl, rfl⟩ := hg
   refine ⟨rfl, rfl, [.int .u16 o, .int .u16 f, .int .u16 t], [], .cons _ _ _ _ _ _ _ (.flat _ _ rfl) (.cons _ _ _ _ _ _ _ (.flat _ _ rfl) (.cons _ _ _ _ _ _ _ (.flat _ _ rfl) (.nil _))), ?_⟩
   refine Runs.val0 zxf (F := 100) (n := 4) ?_
   rw [zuS]
   have e : u64.wrap (u64.wrap (u64.wrap (zaU .u16 (· ^^^ ·) 65535 o) + u64.wrap (zaU .u16 (· ^^^ ·) 65535 f)) + u64.wrap t) = (65535 - o) + (65535 - f) + t := by
    rw [zpq ho, zpq hf, zbG (n := 65535 - o) (by omega), zbG (n := 65535 - f) (by omega), zbG (n := t) (by omega), zbG (n := 65535 - o + (65535 - f)) (by omega), zbG (by omega)]
   simp only [e]
   rw [if_pos (by simp; omega), zpq (zcR _)]
   rfl
 · simp at hg


def zgw : List Bool := [true, true, false, true] ++ List.replicate 31 false

noncomputable def zBB (l : List UInt8) (s : Int) : ALoop :=
 { st := .ready, pend := none, env := [slB 0 l, .int .u32 s, .tup [], .tup [], .int .u16 0, .ptr (some (1, 0)), .tup [], .tup [], .int .u32 s, .int .u64 (u64.wrap s), slB 0 l, .fn (.func 66) [.ptr (some (2, 0))],
  .tup [], .tup [], .tup [], .tup [], .tup [], .tup [], .tup [], .tup []], ps := [12, 13], asg := (zk9 (zaB Try.prog 65) 0).1, body := (zk9 (zaB Try.prog 65) 0).2 }

noncomputable def zjQ (l : List UInt8) (s x : Int) : zaa := [zaC l, .cells [.int .u64 x] 1 .own none, .cells [slB 0 l] 1 .own none, .lp (zBB l s)]
def zb3 (k : Nat) (q : Nat) (p : Int) : List AV := [.fn (.yield k) [], .ptr (some (q, 0)), .int .i64 p]

theorem zwJ (l : List UInt8) (s x p : Int) : zbR Try.prog (za5 Try.prog [] 100 4) zid (zb2 (zaB Try.prog 66) 0) zgw (zb3 3 2 p) (zjQ l s x) =
 if decide (p < (l.length : Int)) = true then
 (if 0 ≤ p ∧ p < (l.length : Int) then
 (if zaI .u8 (bys l)[0 + p.toNat * 1]? = true then
 (if decide (i64.wrap (p + 1) < (l.length : Int)) = true then
 (if 0 ≤ i64.wrap (p + 1) ∧ i64.wrap (p + 1) < (l.length : Int) then
 (if zaI .u8 (bys l)[0 + (i64.wrap (p + 1)).toNat * 1]? = true then
 some (.norm, zb3 3 2 (i64.wrap (p + 2)), zjQ l s
 (u64.wrap (x + u64.wrap (zaU .u16 (· ||| ·) (u16.wrap (u16.wrap (zad (bys l)[0 + p.toNat * 1]?) * 256))
 (u16.wrap (zad (bys l)[0 + (i64.wrap (p + 1)).toNat * 1]?))))))
 else none) else none)
 else some (.norm, zb3 3 2 (i64.wrap (p + 2)), zjQ l s
 (u64.wrap (x + u64.wrap (u16.wrap (u16.wrap (zad (bys l)[0 + p.toNat * 1]?) * 256))))))
 else none) else none)
 else some (.exit 0, zb3 3 2 p, zjQ l s x) := by
  kernel_rfl

theorem zhC (l : List UInt8) : ∀ i, i ≤ (l.length + 1) / 2 → 0 ≤ zbi l - zbi (l.drop (2 * i)) ∧ zbi l - zbi (l.drop (2 * i)) ≤ 65535 * (i : Int)
 | 0, _ => by simp
 | i + 1, h => by
  have ih := zhC l i (by omega)
  have h1 := zjH (l := l) (i := 2 * i) (by omega)
  have h2 := zau l (2 * i)
  rw [show 2 * (i + 1) = 2 * i + 2 by omega]
  omega

theorem zyg (l : List UInt8) (s : Int) (hs : 0 ≤ s ∧ s < 4294967296) (hl : l.length ≤ 70368744177664) :
 ∃ j, zd7 (zbR Try.prog (za5 Try.prog [] 100 4) zid (zb2 (zaB Try.prog 66) 0) zgw) j (zb3 3 2 0) (zjQ l s s) = some (.exit 0, zb3 3 2 ((2 * ((l.length + 1) / 2) : Nat) : Int), zjQ l s (s + zbi l)) := by
 have := znO (body := zbR Try.prog (za5 Try.prog [] 100 4) zid (zb2 (zaB Try.prog 66) 0) zgw)
  (fun i => (zb3 3 2 ((2 * i : Nat) : Int), zjQ l s (s + (zbi l - zbi (l.drop (2 * i)))))) (n := (l.length + 1) / 2) (e := .exit 0) (vs := zb3 3 2 ((2 * ((l.length + 1) / 2) : Nat) : Int)) (h := zjQ l s (s + zbi l)) (by simp)
  (fun i hi => by
   have hp := zhC l i (by omega)
   have h1 := zjH (l := l) (i := 2 * i) (by omega)
   have g1 := zaS l (2 * i)
   have g2 := zaS l (2 * i + 1)
   have e1 : 0 + ((2 * i : Nat) : Int).toNat * 1 = 2 * i := by omega
   have e2 : i64.wrap (((2 * i : Nat) : Int) + 1) = ((2 * i + 1 : Nat) : Int) := by rw [zao (by omega)]; omega
   have e3 : 0 + ((2 * i + 1 : Nat) : Int).toNat * 1 = 2 * i + 1 := by omega
   have e4 : i64.wrap (((2 * i : Nat) : Int) + 2) = ((2 * (i + 1) : Nat) : Int) := by rw [zao (by omega)]; omega
   simp only [zwJ]
   rw [e1, e2, e3, e4, if_pos (by simp; omega), if_pos (by omega), zbk, zay, if_pos (by simp; omega), zbk, zay, zaM, zaM]
   by_cases h2 : 2 * i + 1 < l.length
   · rw [if_pos (by simp; omega), if_pos (by omega), if_pos (by simp; omega), zzz g1 g2, zbG (n := byt l (2 * i) * 256 + byt l (2 * i + 1)) (by omega), zbG (by omega)]
     have : s + (zbi l - zbi (l.drop (2 * i))) + (byt l (2 * i) * 256 + byt l (2 * i + 1)) = s + (zbi l - zbi (l.drop (2 * (i + 1)))) := by
      rw [show 2 * (i + 1) = 2 * i + 2 by omega]
      unfold zan at h1; omega
     rw [this]
   · have h0 := zrf (show l.length ≤ 2 * i + 1 by omega)
     rw [if_neg (by simp; omega), zb7 (n := byt l (2 * i)) (by omega), zb7 (by omega), zbG (n := byt l (2 * i) * 256) (by omega), zbG (by omega)]
     have : s + (zbi l - zbi (l.drop (2 * i))) + byt l (2 * i) * 256 = s + (zbi l - zbi (l.drop (2 * (i + 1)))) := by
      rw [show 2 * (i + 1) = 2 * i + 2 by omega]
      unfold zan at h1; omega
     rw [this])
  (by
   simp only [zwJ]
   rw [if_neg (by simp; omega)]
   rw [List.drop_of_length_le (by omega)]
   simp [zbi])
 simpa using this

noncomputable def eW (l : List UInt8) (s : Int) : Ent := zA9 [.fn (.yield 3) [], .ptr (some (2, 0))] (zjQ l s s) (.tup []) (zjQ l s (s + zbi l))

theorem zmt (l : List UInt8) (s : Int) (hs : 0 ≤ s ∧ s < 4294967296) (hl : l.length ≤ 70368744177664) : Runs Try.prog 66 [.fn (.yield 3) [], .ptr (some (2, 0))] (zjQ l s s) (.tup []) (zjQ l s (s + zbi l)) := by
 refine Runs.of (zar _) (F := 100) (n := 4) (ls := [(1, zvr zgw (zb3 3 2 0) (zjQ l s s) (.exit 0) (zb3 3 2 ((2 * ((l.length + 1) / 2) : Nat) : Int)) (zjQ l s (s + zbi l)))]) (only (by kernel_rfl) (zeJ (zu2 100 4) (LS := zid) (zeq (by kernel_rfl)) (zyg l s hs hl))) ?_
 have : zch Try.prog (za5 Try.prog [] 100 4) (zdF [(1, zvr zgw (zb3 3 2 0) (zjQ l s s) (.exit 0) (zb3 3 2 ((2 * ((l.length + 1) / 2) : Nat) : Int)) (zjQ l s (s + zbi l)))] (zbL Try.prog (za5 Try.prog [] 100 4) 100 4 (zaB Try.prog 66)))
  66 [.fn (.yield 3) [], .ptr (some (2, 0))] (zjQ l s s) (fun v h => some (v, h)) = if zaE (zb3 3 2 0 = zb3 3 2 0 ∧ zjQ l s s = zjQ l s s) = true then some (.tup [], zjQ l s (s + zbi l)) else none := by kernel_rfl
 rw [this, if_pos (zab.2 ⟨rfl, rfl⟩)]

def zA2 : zdD := fun args h => match args with
 | [b, .int .u32 s] => some (bOk h b && decide (nOf b ≤ 70368744177664 ∧ 0 ≤ s ∧ s < 4294967296), .int .u16 (zfX (bOf h b) s), h)
 | _ => none

noncomputable def zBe (l : List UInt8) (s : Int) : Tbl := [(62, zbj zva), (66, eW l s)]

theorem zA3 {R : Type} (l : List UInt8) (s : Int) (K : AV → Option R) : zch Try.prog (za5 Try.prog (zBe l s) 100 4) (zdF [] (zbL Try.prog (za5 Try.prog (zBe l s) 100 4) 100 4 (zaB Try.prog 65))) 65 [slB 0 l, .int .u32 s] [zaC l] (fun v _ => K v) =
 if zaE ([AV.fn (.yield 3) [], AV.ptr (some (2, 0))] = [.fn (.yield 3) [], .ptr (some (2, 0))] ∧ zjQ l s (u64.wrap s) = zjQ l s s) = true then
 (if decide (0 ≤ s + zbi l ∧ s + zbi l < 9223372036854775808) = true then K (.int .u16 (zcE (s + zbi l))) else none)
 else none := by
  kernel_rfl

theorem zBW : SoundE Try.prog 65 (zbj zA2) := by
 refine zax fun args h v h' hg => ?_
 unfold zA2 at hg
 split at hg
 · rename_i b s
   simp only [Option.some.injEq, Prod.mk.injEq, Bool.and_eq_true, decide_eq_true_eq] at hg
   obtain ⟨⟨hb, hn, hs⟩, rfl, rfl⟩ := hg
   refine ⟨rfl, rfl, [slB 0 (bOf h b), .int .u32 s], [zaC (bOf h b)], .cons _ _ _ _ _ _ _ (zaJ hb 0) (.cons _ _ _ _ _ _ _ (.flat _ _ rfl) (.nil _)), ?_⟩
   rw [← zbt hb] at hn
   generalize bOf h b = l at hn
   refine Runs.val0 (t := zBe l s) (zal zzu (zal (zkY (zmt l s hs hn)) (zar _))) (F := 100) (n := 4) ?_
   have hr := za1 l
   rw [zA3, if_pos (zab.2 ⟨rfl, by rw [zbG (by omega)]⟩), if_pos (by simp; omega)]
   rfl
 · simp at hg

end Go.Proofs.Ytnchnjkakddhlaa.L

end

section
/- chksum's Change. -/
set_option autoImplicit false
set_option maxRecDepth 100000
set_option linter.unusedVariables false
set_option linter.unusedSimpArgs false
namespace Go.Proofs.Ytnchnjkakddhlaa.L
open Go Go.Abs
open Go.IntKind (u8 u16 u32 u64 i64)
open Go.Abs.AV (int)
open Go.Abs.ABlk (cells)

noncomputable def tCh : Tbl := [(43, zbj zif), (49, zbj zfH)]
theorem zzh : ∀ f E, tCh.find f = some E → SoundE Try.prog f E := zal zkD (zal ztX (zar _))

noncomputable def zBY (f t : List UInt8) (old : Int) (st : LoopState) : ALoop :=
 { st := st, pend := none, env := [.int .u16 old, slB 0 f, slB 1 t, .ptr (some (2, 0)), .tup [], .ptr (some (3, 0)), .int .u16 0, .tup [], .tup [], .tup [], .tup [],
    slB 0 f, .int .i64 f.length, slB 1 t, .int .i64 t.length, .bool ((f.length : Int) != (t.length : Int)), .bool false, slB 0 f, .int .i64 f.length, .int .i64 ((f.length : Int).tmod 2), .bool ((f.length : Int).tmod 2 != 0),
    .bool ((f.length : Int).tmod 2 != 0), .tup [], slB 0 f, .fn (.func 66) [.ptr (some (4, 0))]] ++ List.replicate 13 (.tup []),
   ps := [25, 26], asg := (zk9 (zaB Try.prog 45) 0).1, body := (zk9 (zaB Try.prog 45) 0).2 }

noncomputable def hCh (f t : List UInt8) (old : Int) (st : LoopState) (x : Int) : zaa :=
 [zaC f, zaC t, .cells [.int .u16 x] 1 .own none, .cells [slB 1 t] 1 .own none, .cells [slB 0 f] 1 .own none, .lp (zBY f t old st)]

theorem zzp (f t : List UInt8) (old x p : Int) : zbR Try.prog (za5 Try.prog tCh 100 4) zid (zb2 (zaB Try.prog 66) 0) zgw (zb3 5 4 p) (hCh f t old .ready x) =
 (let hb := hCh f t old .busy x
 let w := zaU .u16 (· ||| ·) (u16.wrap (u16.wrap (zad (bys f)[0 + p.toNat * 1]?) * 256)) (u16.wrap (zad (bys f)[0 + (i64.wrap (p + 1)).toNat * 1]?))
 let w1 := u16.wrap (u16.wrap (zad (bys f)[0 + p.toNat * 1]?) * 256)
 let v := if 0 ≤ p ∧ p + ((2 : Nat) : Int) ≤ ((bOf hb (slB 1 t)).length : Int) then zbv (bOf hb (slB 1 t)) p.toNat 2 else 0
 if decide (p < (f.length : Int)) = true then
 (if 0 ≤ p ∧ p < (f.length : Int) then
 (if zaI .u8 (bys f)[0 + p.toNat * 1]? = true then
 (if decide (i64.wrap (p + 1) < (f.length : Int)) = true then
 (if 0 ≤ i64.wrap (p + 1) ∧ i64.wrap (p + 1) < (f.length : Int) then
 (if zaI .u8 (bys f)[0 + (i64.wrap (p + 1)).toNat * 1]? = true then
 (if (bOk hb (slB 1 t) && decide ((t.length : Int) < 9223372036854775000)) = true then
 (if decide ((0 ≤ x ∧ x < 65536) ∧ (0 ≤ w ∧ w < 65536) ∧ (0 ≤ v ∧ v < 65536)) = true then
 some (.norm, zb3 5 4 (i64.wrap (p + 2)), hCh f t old .ready (zfJ x w v))
 else none) else none) else none) else none)
 else
 (if (bOk hb (slB 1 t) && decide ((t.length : Int) < 9223372036854775000)) = true then
 (if decide ((0 ≤ x ∧ x < 65536) ∧ (0 ≤ w1 ∧ w1 < 65536) ∧ (0 ≤ v ∧ v < 65536)) = true then
 some (.norm, zb3 5 4 (i64.wrap (p + 2)), hCh f t old .ready (zfJ x w1 v))
 else none) else none))
 else none) else none)
 else some (.exit 0, zb3 5 4 p, hCh f t old .ready x)) := by
  kernel_rfl

theorem zza (old : Int) (f t : List UInt8) (ho : 0 ≤ old ∧ old < 65536) (hl : f.length = t.length) (he : f.length % 2 = 0) (hn : f.length ≤ 70368744177664) :
 ∃ j, zd7 (zbR Try.prog (za5 Try.prog tCh 100 4) zid (zb2 (zaB Try.prog 66) 0) zgw) j (zb3 5 4 0) (hCh f t old .ready old) = some (.exit 0, zb3 5 4 f.length, hCh f t old .ready (zhD old f t)) := by
 have key : ∀ (k i : Nat) (o : Int), f.length - i = k → i % 2 = 0 → i ≤ f.length → 0 ≤ o ∧ o < 65536 →
  ∃ j, zd7 (zbR Try.prog (za5 Try.prog tCh 100 4) zid (zb2 (zaB Try.prog 66) 0) zgw) j (zb3 5 4 (i : Int)) (hCh f t old .ready o) = some (.exit 0, zb3 5 4 f.length, hCh f t old .ready (zhD o (f.drop i) (t.drop i))) := by
  intro k
  induction k using Nat.strongRecOn with
  | _ k ih =>
   intro i o hk hi2 hi ho
   by_cases hlt : i < f.length
   · obtain ⟨j, hj⟩ := ih (f.length - (i + 2)) (by omega) (i + 2) (zfJ o (zan f i) (zan t i)) rfl (by omega) (by omega) (zcZ _ _ _)
     refine ⟨j + 1, ?_⟩
     have g := zw2 (h := hCh f t old .busy o) (k := 1) (l := t) rfl
     have g1 := zaS f i
     have g2 := zaS f (i + 1)
     have e1 : 0 + (i : Int).toNat * 1 = i := by omega
     have e2 : i64.wrap ((i : Int) + 1) = ((i + 1 : Nat) : Int) := by rw [zao (by omega)]; omega
     have e3 : 0 + ((i + 1 : Nat) : Int).toNat * 1 = i + 1 := by omega
     have e4 : i64.wrap ((i : Int) + 2) = ((i + 2 : Nat) : Int) := by rw [zao (by omega)]; omega
     have e5 : (i : Int).toNat = i := by omega
     simp only [zd7, zzp]
     rw [e1, e2, e3, e4, e5, g.1, g.2, if_pos (by simp; omega), if_pos (by omega), zbk, zay, if_pos (by simp; omega), if_pos (by simp; omega), if_pos (by omega), zbk, zay, if_pos (by simp; omega), zaM, zaM, zzz g1 g2,
      if_pos (by simp; omega), if_pos (show 0 ≤ (i : Int) ∧ (i : Int) + ((2 : Nat) : Int) ≤ (t.length : Int) by omega), zcm (by omega), if_pos (by simp only [decide_eq_true_eq]; exact ⟨ho, zau f i, zau t i⟩)]
     simp only [Option.bind_some]
     rw [show byt f i * 256 + byt f (i + 1) = zan f i from rfl, hj, ztw (o := o) (f := f) (t := t) (i := i) (by omega) (by omega)]
   · refine ⟨1, ?_⟩
     have : i = f.length := by omega
     subst this
     simp only [zd7, zzp]
     rw [if_neg (by simp)]
     simp only [Option.bind_some]
     rw [List.drop_length, hl, List.drop_length]
     rfl
 simpa using key _ 0 old rfl rfl (Nat.zero_le _) ho

theorem znU (old : Int) (f t : List UInt8) (ho : 0 ≤ old ∧ old < 65536) (hl : f.length = t.length) (he : f.length % 2 = 0) (hn : f.length ≤ 70368744177664) :
 Runs Try.prog 66 [.fn (.yield 5) [], .ptr (some (4, 0))] (hCh f t old .ready old) (.tup []) (hCh f t old .ready (zhD old f t)) := by
 refine Runs.of zzh (F := 100) (n := 4) (ls := [(1, zvr zgw (zb3 5 4 0) (hCh f t old .ready old) (.exit 0) (zb3 5 4 f.length) (hCh f t old .ready (zhD old f t)))]) (only (by kernel_rfl) (zeJ (zdq zzh 100 4) (LS := zid) (zeq (by kernel_rfl)) (zza old f t ho hl he hn))) ?_
 have : zch Try.prog (za5 Try.prog tCh 100 4) (zdF [(1, zvr zgw (zb3 5 4 0) (hCh f t old .ready old) (.exit 0) (zb3 5 4 f.length) (hCh f t old .ready (zhD old f t)))] (zbL Try.prog (za5 Try.prog tCh 100 4) 100 4 (zaB Try.prog 66)))
  66 [.fn (.yield 5) [], .ptr (some (4, 0))] (hCh f t old .ready old) (fun v h => some (v, h)) = if zaE (zb3 5 4 0 = zb3 5 4 0 ∧ hCh f t old .ready old = hCh f t old .ready old) = true then some (.tup [], hCh f t old .ready (zhD old f t)) else none := by kernel_rfl
 rw [this, if_pos (zab.2 ⟨rfl, rfl⟩)]

def zfw : zdD := fun args h => match args with
 | [.int .u16 o, f, t] => some (bOk h f && bOk h t && decide (nOf f ≤ 70368744177664 ∧ 0 ≤ o ∧ o < 65536), .int .u16 (zaR o (bOf h f) (bOf h t)), h)
 | _ => none

noncomputable def znT (o : Int) (f t : List UInt8) : Tbl := [(66, zA9 [.fn (.yield 5) [], .ptr (some (4, 0))] (hCh f t o .ready o) (.tup []) (hCh f t o .ready (zhD o f t)))]

theorem zvV {R : Type} (o : Int) (f t : List UInt8) (K : AV → Option R) : zch Try.prog (za5 Try.prog (znT o f t) 100 4) (zdF [] (zbL Try.prog (za5 Try.prog (znT o f t) 100 4) 100 4 (zaB Try.prog 45))) 45 [.int .u16 o, slB 0 f, slB 1 t] [zaC f, zaC t] (fun v _ => K v) =
 if ((f.length : Int) != (t.length : Int)) = true then K (.int .u16 o)
 else if ((f.length : Int).tmod 2 != 0) = true then K (.int .u16 o)
 else if zaE ([AV.fn (.yield 5) [], AV.ptr (some (4, 0))] = [.fn (.yield 5) [], .ptr (some (4, 0))] ∧ hCh f t o .ready o = hCh f t o .ready o) = true then (if zaI .u16 (some (AV.int .u16 (zhD o f t))) = true then K (.int .u16 (zhD o f t)) else none) else none := by
  kernel_rfl

theorem zq5 : SoundE Try.prog 45 (zbj zfw) := by
 refine zax fun args h v h' hg => ?_
 unfold zfw at hg
 split at hg
 · rename_i o b c
   simp only [Option.some.injEq, Prod.mk.injEq, Bool.and_eq_true, decide_eq_true_eq] at hg
   obtain ⟨⟨⟨hb, hc⟩, hn, ho⟩, rfl, rfl⟩ := hg
   refine ⟨rfl, rfl, [.int .u16 o, slB 0 (bOf h b), slB 1 (bOf h c)], [zaC (bOf h b), zaC (bOf h c)], .cons _ _ _ _ _ _ _ (.flat _ _ rfl) (.cons _ _ _ _ _ _ _ (zaJ hb 0) (.cons _ _ _ _ _ _ _ (zaJ hc 1) (.nil _))), ?_⟩
   rw [← zbt hb] at hn
   generalize bOf h b = f at hn
   generalize bOf h c = t
   by_cases h1 : f.length = t.length ∧ f.length % 2 = 0
   · refine Runs.val0 (t := znT o f t) (zal (zkY (znU o f t ho h1.1 h1.2 hn)) (zar _)) (F := 100) (n := 4) ?_
     rw [zvV, if_neg (by simp [h1.1]), if_neg (by rw [zzO]; simp [h1.2]), if_pos (zab.2 ⟨rfl, rfl⟩), zaR, if_pos h1]
     rfl
   · have key : ∃ h', Runs Try.prog 45 [.int .u16 o, slB 0 f, slB 1 t] [zaC f, zaC t] (.int .u16 o) h' := by
       refine Runs.val0 (zar _) (F := 0) (n := 0) ?_
       have : zch Try.prog (za5 Try.prog [] 0 0) (zdF [] (zbL Try.prog (za5 Try.prog [] 0 0) 0 4 (zaB Try.prog 45))) 45 [.int .u16 o, slB 0 f, slB 1 t] [zaC f, zaC t] (fun v _ => some v) =
        if ((f.length : Int) != (t.length : Int)) = true then some (.int .u16 o) else if ((f.length : Int).tmod 2 != 0) = true then some (.int .u16 o) else none := by kernel_rfl
       rw [this, zzO]
       by_cases h2 : f.length = t.length
       · rw [if_neg (by simp [h2]), if_pos (by simp; omega)]
       · rw [if_pos (by simp; omega)]
     rw [zaR, if_neg h1]
     exact key
 · simp at hg

end Go.Proofs.Ytnchnjkakddhlaa.L

end

section
/- The reference's Sum, Update, Change. -/
set_option autoImplicit false
set_option maxRecDepth 100000
set_option linter.unusedVariables false
set_option linter.unusedSimpArgs false
namespace Go.Proofs.Ytnchnjkakddhlaa.L
open Go Go.Abs
open Go.IntKind (u8 u16 u32 u64 i64)
open Go.Abs.AV (int)
open Go.Abs.ABlk (cells)


def zuz : List Bool := [true, false, false, false, false, true, true] ++ List.replicate 38 false
def zrg : List Bool := [false, false, false, false, false, true] ++ List.replicate 39 false
def zil (l : List UInt8) (u i : Int) : List AV := [slB 0 l, .int .u64 u, .int .i64 i]

theorem zrM (CALL : CallT) (l : List UInt8) (u i : Int) : zbR Try.prog CALL zid (zb2 (zaB Try.prog 30) 0) zuz (zil l u i) [zaC l] =
 (if decide (i < (l.length : Int)) = true then
 (if 0 ≤ i ∧ i < (l.length : Int) then
 (if zaI .u8 (bys l)[0 + i.toNat * 1]? = true then
 (if decide (i64.wrap (i + 1) < (l.length : Int)) = true then
 (if 0 ≤ i64.wrap (i + 1) ∧ i64.wrap (i + 1) < (l.length : Int) then
 (if zaI .u8 (bys l)[0 + (i64.wrap (i + 1)).toNat * 1]? = true then
 some (.norm, zil l (u64.wrap (u64.wrap (u + u64.wrap (u64.wrap (zad (bys l)[0 + i.toNat * 1]?) * 256)) +
 u64.wrap (zad (bys l)[0 + (i64.wrap (i + 1)).toNat * 1]?))) (i64.wrap (i + 2)), [zaC l])
 else none) else none)
 else some (.norm, zil l (u64.wrap (u + u64.wrap (u64.wrap (zad (bys l)[0 + i.toNat * 1]?) * 256))) (i64.wrap (i + 2)), [zaC l]))
 else none) else none)
 else some (.exit 0, zil l u i, [zaC l])) := by
  kernel_rfl

theorem zoM (CALL : CallT) (u : Int) (h : zaa) : zbR Try.prog CALL zid (zb2 (zaB Try.prog 30) 1) zrg [.int .u64 u] h =
 if decide (u > 65535) = true then some (.norm, [.int .u64 (u64.wrap (u.fdiv 65536 + zaU .u64 (· &&& ·) u 65535))], h) else some (.exit 2, [.int .u64 u], h) := by
  kernel_rfl

theorem zrD (h : zaa) : ∀ (k : Nat) (n : Int), n.toNat = k → 0 ≤ n → n < 9223372036854775808 → ∃ j, zd7 (zbR Try.prog (za5 Try.prog [] 100 4) zid (zb2 (zaB Try.prog 30) 1) zrg) j [.int .u64 n] h = some (.exit 2, [.int .u64 (zcE n)], h) := by
 intro k
 induction k using Nat.strongRecOn with
 | _ k ih =>
  intro n hk h0 h1
  by_cases hb : n < 65536
  · refine ⟨1, ?_⟩
    simp only [zd7, zoM, decide_eq_true_eq, if_neg (show ¬ n > 65535 by omega), Option.bind_some]
    rw [zjz ⟨h0, hb⟩]
  · have e : u64.wrap (n.fdiv 65536 + zaU .u64 (· &&& ·) n 65535) = n % 65536 + n / 65536 := by
      rw [zzi (by omega), zlB, zbG (by omega)]; omega
    obtain ⟨j, hj⟩ := ih (n % 65536 + n / 65536).toNat (by omega) _ rfl (by omega) (by omega)
    refine ⟨j + 1, ?_⟩
    simp only [zd7, zoM, decide_eq_true_eq, if_pos (show n > 65535 by omega), Option.bind_some, e]
    rw [hj, zj3 h0]

theorem zuG (l : List UInt8) (s : Int) (hs : 0 ≤ s ∧ s < 4294967296) (hl : l.length ≤ 70368744177664) :
 ∃ j, zd7 (zbR Try.prog (za5 Try.prog [] 100 4) zid (zb2 (zaB Try.prog 30) 0) zuz) j (zil l s 0) [zaC l] = some (.exit 0, zil l (s + zbi l) ((2 * ((l.length + 1) / 2) : Nat) : Int), [zaC l]) := by
 have := znO (body := zbR Try.prog (za5 Try.prog [] 100 4) zid (zb2 (zaB Try.prog 30) 0) zuz)
  (fun i => (zil l (s + (zbi l - zbi (l.drop (2 * i)))) ((2 * i : Nat) : Int), [zaC l])) (n := (l.length + 1) / 2) (e := .exit 0) (vs := zil l (s + zbi l) ((2 * ((l.length + 1) / 2) : Nat) : Int)) (h := [zaC l]) (by simp)
  (fun i hi => by
   have hp := zhC l i (by omega)
   have h1 := zjH (l := l) (i := 2 * i) (by omega)
   have g1 := zaS l (2 * i)
   have g2 := zaS l (2 * i + 1)
   have e1 : 0 + ((2 * i : Nat) : Int).toNat * 1 = 2 * i := by omega
   have e2 : i64.wrap (((2 * i : Nat) : Int) + 1) = ((2 * i + 1 : Nat) : Int) := by rw [zao (by omega)]; omega
   have e3 : 0 + ((2 * i + 1 : Nat) : Int).toNat * 1 = 2 * i + 1 := by omega
   have e4 : i64.wrap (((2 * i : Nat) : Int) + 2) = ((2 * (i + 1) : Nat) : Int) := by rw [zao (by omega)]; omega
   simp only [zrM]
   rw [e1, e2, e3, e4, if_pos (by simp; omega), if_pos (by omega), zbk, zay, if_pos (by simp; omega), zbk, zay, zaM, zaM]
   rw [zbG (n := byt l (2 * i)) (by omega), zbG (n := byt l (2 * i) * 256) (by omega)]
   by_cases h2 : 2 * i + 1 < l.length
   · rw [if_pos (by simp; omega), if_pos (by omega), if_pos (by simp; omega), zbG (n := byt l (2 * i + 1)) (by omega), zbG (n := s + (zbi l - zbi (l.drop (2 * i))) + byt l (2 * i) * 256) (by omega), zbG (by omega)]
     have : s + (zbi l - zbi (l.drop (2 * i))) + byt l (2 * i) * 256 + byt l (2 * i + 1) = s + (zbi l - zbi (l.drop (2 * (i + 1)))) := by
      rw [show 2 * (i + 1) = 2 * i + 2 by omega]
      unfold zan at h1; omega
     rw [this]
   · have h0 := zrf (show l.length ≤ 2 * i + 1 by omega)
     rw [if_neg (by simp; omega), zbG (by omega)]
     have : s + (zbi l - zbi (l.drop (2 * i))) + byt l (2 * i) * 256 = s + (zbi l - zbi (l.drop (2 * (i + 1)))) := by
      rw [show 2 * (i + 1) = 2 * i + 2 by omega]
      unfold zan at h1; omega
     rw [this])
  (by
   simp only [zrM]
   rw [if_neg (by simp; omega)]
   rw [List.drop_of_length_le (by omega)]
   simp [zbi])
 simpa using this

def zfd : zdD := fun args h => match args with
 | [b, .int .u32 s] => some (bOk h b && decide (nOf b ≤ 70368744177664 ∧ 0 ≤ s ∧ s < 4294967296), .int .i64 (zfX (bOf h b) s), h)
 | _ => none

noncomputable def zwf (l : List UInt8) (s : Int) : List (Nat × LoopF) := [(3, zvr zuz (zil l s 0) [zaC l] (.exit 0) (zil l (s + zbi l) ((2 * ((l.length + 1) / 2) : Nat) : Int)) [zaC l]),
 (8, zvr zrg [.int .u64 (s + zbi l)] [zaC l] (.exit 2) [.int .u64 (zcE (s + zbi l))] [zaC l])]

theorem zzq {R : Type} (l : List UInt8) (s : Int) (K : AV → Option R) : zch Try.prog (za5 Try.prog [] 100 4) (zdF (zwf l s) (zbL Try.prog (za5 Try.prog [] 100 4) 100 4 (zaB Try.prog 30))) 30 [slB 0 l, .int .u32 s] [zaC l] (fun v _ => K v) =
 if zaE (zil l (u64.wrap s) 0 = zil l s 0 ∧ [zaC l] = [zaC l]) = true then
 (if zaE ([AV.int .u64 (s + zbi l)] = [AV.int .u64 (s + zbi l)] ∧ [zaC l] = [zaC l]) = true then K (.int .i64 (i64.wrap (zcE (s + zbi l)))) else none)
 else none := by
  kernel_rfl

theorem zv0 : SoundE Try.prog 30 (zbj zfd) := by
 refine zax fun args h v h' hg => ?_
 unfold zfd at hg
 split at hg
 · rename_i b s
   simp only [Option.some.injEq, Prod.mk.injEq, Bool.and_eq_true, decide_eq_true_eq] at hg
   obtain ⟨⟨hb, hn, hs⟩, rfl, rfl⟩ := hg
   refine ⟨rfl, rfl, [slB 0 (bOf h b), .int .u32 s], [zaC (bOf h b)], .cons _ _ _ _ _ _ _ (zaJ hb 0) (.cons _ _ _ _ _ _ _ (.flat _ _ rfl) (.nil _)), ?_⟩
   rw [← zbt hb] at hn
   generalize bOf h b = l at hn
   have hr := za1 l
   have hf := zcR (s + zbi l)
   refine Runs.val (zar _) (F := 100) (n := 4) (ls := zwf l s) (zBT (by kernel_rfl) (by kernel_rfl) (by kernel_rfl) (by decide) (zeJ (zu2 100 4) (LS := zid) (zeq (by kernel_rfl)) (zuG l s hs hn))
    (zeJ (zu2 100 4) (LS := zid) (zeq (by kernel_rfl)) (zrD _ _ (s + zbi l) rfl (by omega) (by omega)))) ?_
   rw [zzq, if_pos (zab.2 ⟨by rw [zbG (by omega)], rfl⟩), if_pos (zab.2 ⟨rfl, rfl⟩), zao (by omega)]
   rfl
 · simp at hg



end Go.Proofs.Ytnchnjkakddhlaa.L

end

section
/- Where what follows begins: the program's Net and the reference's. -/
set_option autoImplicit false
set_option maxRecDepth 100000
set_option linter.unusedVariables false
set_option linter.unusedSimpArgs false
namespace Go.Proofs.Ytnchnjkakddhlaa.L
open Go Go.Abs
open Go.IntKind (u8 u16 u32 u64 i64)
open Go.Abs.AV (int)
open Go.Abs.ABlk (cells)
noncomputable def zAP : Tbl := [(43, zbj zif)]
noncomputable def zun : Tbl := [(50, zbj ziJ)]
noncomputable def zcB (b : List UInt8) : zaa := [cells (bys b) 1 Md.far none]
theorem zA1 {R : Type} (b : List UInt8) (K : AV → Option R) :
 zch Try.prog (za5 Try.prog zAP 100 4) (zdF [] (zbL Try.prog (za5 Try.prog zAP 100 4) 100 4 (zaB Try.prog 39))) 39 [slB 0 b] [zaC b] (fun v _ => K v) =
 (if (bOk (zcB b) (AV.sl (some (0, 0)) b.length 0 false) && decide ((((nOf (AV.sl (some (0, 0)) b.length 0 false)) : Nat) : Int) < 9223372036854775000)) = true then
 (if ((if Int.ofNat 0 ≤ Int.ofNat 12 ∧ 14 ≤ (((bOf (zcB b) (AV.sl (some (0, 0)) b.length 0 false)).length : Nat) : Int) then zbv (bOf (zcB b) (AV.sl (some (0, 0)) b.length 0 false)) 12 2 else 0) == 33024) = true then
 (if decide (Int.ofNat 0 ≤ Int.ofNat 12 ∧ 14 ≤ (((bOf (zcB b) (AV.sl (some (0, 0)) b.length 0 false)).length : Nat) : Int)) = true then
 (if (bOk (zcB b) (AV.sl (some (0, 0)) b.length 0 false) && decide ((((nOf (AV.sl (some (0, 0)) b.length 0 false)) : Nat) : Int) < 9223372036854775000)) = true then
 (if (!decide (Int.ofNat 0 ≤ Int.ofNat 16 ∧ 18 ≤ (((bOf (zcB b) (AV.sl (some (0, 0)) b.length 0 false)).length : Nat) : Int))) = true then
 K (AV.tup [int i64 0, int u16 0, int i64 1])
 else (if ((if Int.ofNat 0 ≤ Int.ofNat 16 ∧ 18 ≤ (((bOf (zcB b) (AV.sl (some (0, 0)) b.length 0 false)).length : Nat) : Int) then zbv (bOf (zcB b) (AV.sl (some (0, 0)) b.length 0 false)) 16 2 else 0) != 2048) = true then
 (if ((if Int.ofNat 0 ≤ Int.ofNat 16 ∧ 18 ≤ (((bOf (zcB b) (AV.sl (some (0, 0)) b.length 0 false)).length : Nat) : Int) then zbv (bOf (zcB b) (AV.sl (some (0, 0)) b.length 0 false)) 16 2 else 0) != 34525) = true then
 K (AV.tup [int i64 0, int u16 0, int i64 2])
 else K (AV.tup [int i64 18, int u16 (if Int.ofNat 0 ≤ Int.ofNat 16 ∧ 18 ≤ (((bOf (zcB b) (AV.sl (some (0, 0)) b.length 0 false)).length : Nat) : Int) then zbv (bOf (zcB b) (AV.sl (some (0, 0)) b.length 0 false)) 16 2 else 0), int i64 0]))
 else K (AV.tup [int i64 18, int u16 (if Int.ofNat 0 ≤ Int.ofNat 16 ∧ 18 ≤ (((bOf (zcB b) (AV.sl (some (0, 0)) b.length 0 false)).length : Nat) : Int) then zbv (bOf (zcB b) (AV.sl (some (0, 0)) b.length 0 false)) 16 2 else 0), int i64 0])))
 else none)
 else (if (!decide (Int.ofNat 0 ≤ Int.ofNat 12 ∧ 14 ≤ (((bOf (zcB b) (AV.sl (some (0, 0)) b.length 0 false)).length : Nat) : Int))) = true then
 K (AV.tup [int i64 0, int u16 0, int i64 1])
 else (if ((if Int.ofNat 0 ≤ Int.ofNat 12 ∧ 14 ≤ (((bOf (zcB b) (AV.sl (some (0, 0)) b.length 0 false)).length : Nat) : Int) then zbv (bOf (zcB b) (AV.sl (some (0, 0)) b.length 0 false)) 12 2 else 0) != 2048) = true then
 (if ((if Int.ofNat 0 ≤ Int.ofNat 12 ∧ 14 ≤ (((bOf (zcB b) (AV.sl (some (0, 0)) b.length 0 false)).length : Nat) : Int) then zbv (bOf (zcB b) (AV.sl (some (0, 0)) b.length 0 false)) 12 2 else 0) != 34525) = true then
 K (AV.tup [int i64 0, int u16 0, int i64 2])
 else K (AV.tup [int i64 14, int u16 (if Int.ofNat 0 ≤ Int.ofNat 12 ∧ 14 ≤ (((bOf (zcB b) (AV.sl (some (0, 0)) b.length 0 false)).length : Nat) : Int) then zbv (bOf (zcB b) (AV.sl (some (0, 0)) b.length 0 false)) 12 2 else 0), int i64 0]))
 else K (AV.tup [int i64 14, int u16 (if Int.ofNat 0 ≤ Int.ofNat 12 ∧ 14 ≤ (((bOf (zcB b) (AV.sl (some (0, 0)) b.length 0 false)).length : Nat) : Int) then zbv (bOf (zcB b) (AV.sl (some (0, 0)) b.length 0 false)) 12 2 else 0), int i64 0]))))
 else (if (!decide (Int.ofNat 0 ≤ Int.ofNat 12 ∧ 14 ≤ (((bOf (zcB b) (AV.sl (some (0, 0)) b.length 0 false)).length : Nat) : Int))) = true then
 K (AV.tup [int i64 0, int u16 0, int i64 1])
 else (if ((if Int.ofNat 0 ≤ Int.ofNat 12 ∧ 14 ≤ (((bOf (zcB b) (AV.sl (some (0, 0)) b.length 0 false)).length : Nat) : Int) then zbv (bOf (zcB b) (AV.sl (some (0, 0)) b.length 0 false)) 12 2 else 0) != 2048) = true then
 (if ((if Int.ofNat 0 ≤ Int.ofNat 12 ∧ 14 ≤ (((bOf (zcB b) (AV.sl (some (0, 0)) b.length 0 false)).length : Nat) : Int) then zbv (bOf (zcB b) (AV.sl (some (0, 0)) b.length 0 false)) 12 2 else 0) != 34525) = true then
 K (AV.tup [int i64 0, int u16 0, int i64 2])
 else K (AV.tup [int i64 14, int u16 (if Int.ofNat 0 ≤ Int.ofNat 12 ∧ 14 ≤ (((bOf (zcB b) (AV.sl (some (0, 0)) b.length 0 false)).length : Nat) : Int) then zbv (bOf (zcB b) (AV.sl (some (0, 0)) b.length 0 false)) 12 2 else 0), int i64 0]))
 else K (AV.tup [int i64 14, int u16 (if Int.ofNat 0 ≤ Int.ofNat 12 ∧ 14 ≤ (((bOf (zcB b) (AV.sl (some (0, 0)) b.length 0 false)).length : Nat) : Int) then zbv (bOf (zcB b) (AV.sl (some (0, 0)) b.length 0 false)) 12 2 else 0), int i64 0]))))
 else none) := by
  kernel_rfl

noncomputable def zfp (b : List UInt8) : zaa := [cells (bys b) 1 Md.far none]
theorem zyY {R : Type} (b : List UInt8) (K : AV → Option R) :
 zch Try.prog (za5 Try.prog zun 100 4) (zdF [] (zbL Try.prog (za5 Try.prog zun 100 4) 100 4 (zaB Try.prog 34))) 34 [slB 0 b] [zaC b] (fun v _ => K v) =
 (if decide ((b.length : Int) < 14) = true then
 K (AV.tup [int i64 0, int i64 0, int i64 1])
 else (if (bOk (zfp b) (AV.sl (some (0, 0)) b.length 0 false) && decide (nOf (AV.sl (some (0, 0)) b.length 0 false) ≤ 70368744177664 ∧ Int.ofNat 0 ≤ Int.ofNat 12 ∧ 14 ≤ (((nOf (AV.sl (some (0, 0)) b.length 0 false)) : Nat) : Int))) = true then
 (if (zan (bOf (zfp b) (AV.sl (some (0, 0)) b.length 0 false)) 12 == 33024) = true then
 (if decide ((b.length : Int) < 18) = true then
 K (AV.tup [int i64 0, int i64 0, int i64 1])
 else (if (bOk (zfp b) (AV.sl (some (0, 0)) b.length 0 false) && decide (nOf (AV.sl (some (0, 0)) b.length 0 false) ≤ 70368744177664 ∧ Int.ofNat 0 ≤ Int.ofNat 16 ∧ 18 ≤ (((nOf (AV.sl (some (0, 0)) b.length 0 false)) : Nat) : Int))) = true then
 (if (zan (bOf (zfp b) (AV.sl (some (0, 0)) b.length 0 false)) 16 != 2048) = true then
 (if (zan (bOf (zfp b) (AV.sl (some (0, 0)) b.length 0 false)) 16 != 34525) = true then
 K (AV.tup [int i64 0, int i64 0, int i64 2])
 else K (AV.tup [int i64 18, int i64 (zan (bOf (zfp b) (AV.sl (some (0, 0)) b.length 0 false)) 16), int i64 0]))
 else K (AV.tup [int i64 18, int i64 (zan (bOf (zfp b) (AV.sl (some (0, 0)) b.length 0 false)) 16), int i64 0]))
 else none))
 else (if (zan (bOf (zfp b) (AV.sl (some (0, 0)) b.length 0 false)) 12 != 2048) = true then
 (if (zan (bOf (zfp b) (AV.sl (some (0, 0)) b.length 0 false)) 12 != 34525) = true then
 K (AV.tup [int i64 0, int i64 0, int i64 2])
 else K (AV.tup [int i64 14, int i64 (zan (bOf (zfp b) (AV.sl (some (0, 0)) b.length 0 false)) 12), int i64 0]))
 else K (AV.tup [int i64 14, int i64 (zan (bOf (zfp b) (AV.sl (some (0, 0)) b.length 0 false)) 12), int i64 0])))
 else none)) := by
  kernel_rfl


def zuh (at' : Int) (w : Int) : Int × Int × Int := if w ≠ 2048 ∧ w ≠ 34525 then (0, 0, 2) else (at', w, 0)
def za7 (b : List UInt8) : Int × Int × Int :=
 if b.length < 14 then (0, 0, 1)
 else if zan b 12 = 33024 then (if b.length < 18 then (0, 0, 1) else zuh 18 (zan b 16))
 else zuh 14 (zan b 12)
def zgh (k : IntKind) (x : Int × Int × Int) : AV := .tup [.int .i64 x.1, .int k x.2.1, .int .i64 x.2.2]

theorem zhI (b : List UInt8) : (za7 b).2.2 = 0 ∧ ((za7 b).1 = 14 ∧ 14 ≤ b.length ∨ (za7 b).1 = 18 ∧ 18 ≤ b.length) ∧ ((za7 b).2.1 = 2048 ∨ (za7 b).2.1 = 34525) ∨ (za7 b).1 = 0 ∧ (za7 b).2.1 = 0 ∧ ((za7 b).2.2 = 1 ∨ (za7 b).2.2 = 2) := by
 unfold za7 zuh
 repeat' split
 all_goals simp
 all_goals omega

def zlb : zdD := fun args h => match args with
 | [b] => some (bOk h b && decide (nOf b ≤ 70368744177664), zgh .u16 (za7 (bOf h b)), h)
 | _ => none
def zhw : zdD := fun args h => match args with
 | [b] => some (bOk h b && decide (nOf b ≤ 70368744177664), zgh .i64 (za7 (bOf h b)), h)
 | _ => none

theorem zyh {R : Type} (b : List UInt8) (hb : b.length ≤ 70368744177664) (K : AV → Option R) : zch Try.prog (za5 Try.prog zAP 100 4) (zdF [] (zbL Try.prog (za5 Try.prog zAP 100 4) 100 4 (zaB Try.prog 39))) 39 [slB 0 b] [zaC b] (fun v _ => K v) = K (zgh .u16 (za7 b)) := by
 rw [zA1]
 have g := zam (h := zcB b) (k := 0) (n := b.length) (r := 0) (e := false) (l := b) rfl rfl rfl
 simp only [g.2]
 have c0 : (b.length : Int) < 9223372036854775000 := by omega
 have w : ∀ i : Nat, i + 2 ≤ b.length → zbv b i 2 = zan b i := fun i hi => zcm hi
 by_cases h1 : 14 ≤ b.length
 · have c1 : ((14 : Int) ≤ (b.length : Int)) := by omega
   have c1' : ¬ b.length < 14 := by omega
   rw [w 12 (by omega)]
   by_cases h2 : 18 ≤ b.length
   · have c2 : ((18 : Int) ≤ (b.length : Int)) := by omega
     have c2' : ¬ b.length < 18 := by omega
     rw [w 16 (by omega)]
     by_cases w1 : zan b 12 = 33024 <;> by_cases w2 : zan b 12 = 2048 <;> by_cases w3 : zan b 12 = 34525 <;> by_cases w4 : zan b 16 = 2048 <;> by_cases w5 : zan b 16 = 34525 <;> first | omega | (simp [*, za7, zgh, zuh, nOf, g.1] <;> done)
   · have c2 : ¬ ((18 : Int) ≤ (b.length : Int)) := by omega
     have c2' : b.length < 18 := by omega
     by_cases w1 : zan b 12 = 33024 <;> by_cases w2 : zan b 12 = 2048 <;> by_cases w3 : zan b 12 = 34525 <;> first | omega | (simp [*, za7, zgh, zuh, nOf, g.1] <;> done)
 · have c1 : ¬ ((14 : Int) ≤ (b.length : Int)) := by omega
   have c1' : b.length < 14 := by omega
   simp [*, za7, zgh, zuh, nOf, g.1]

theorem zvK {R : Type} (b : List UInt8) (hb : b.length ≤ 70368744177664) (K : AV → Option R) : zch Try.prog (za5 Try.prog zun 100 4) (zdF [] (zbL Try.prog (za5 Try.prog zun 100 4) 100 4 (zaB Try.prog 34))) 34 [slB 0 b] [zaC b] (fun v _ => K v) = K (zgh .i64 (za7 b)) := by
 rw [zyY]
 have g := zam (h := zfp b) (k := 0) (n := b.length) (r := 0) (e := false) (l := b) rfl rfl rfl
 simp only [g.2]
 have c0 : (b.length : Int) < 9223372036854775000 := by omega
 by_cases h1 : 14 ≤ b.length
 · have c1 : ((14 : Int) ≤ (b.length : Int)) := by omega
   have c1' : ¬ b.length < 14 := by omega
   have c1'' : ¬ (b.length : Int) < 14 := by omega
   by_cases h2 : 18 ≤ b.length
   · have c2 : ((18 : Int) ≤ (b.length : Int)) := by omega
     have c2' : ¬ b.length < 18 := by omega
     have c2'' : ¬ (b.length : Int) < 18 := by omega
     by_cases w1 : zan b 12 = 33024 <;> by_cases w2 : zan b 12 = 2048 <;> by_cases w3 : zan b 12 = 34525 <;> by_cases w4 : zan b 16 = 2048 <;> by_cases w5 : zan b 16 = 34525 <;> first | omega | (simp [*, za7, zgh, zuh, nOf, g.1] <;> done)
   · have c2 : (b.length : Int) < 18 := by omega
     have c2' : b.length < 18 := by omega
     by_cases w1 : zan b 12 = 33024 <;> by_cases w2 : zan b 12 = 2048 <;> by_cases w3 : zan b 12 = 34525 <;> first | omega | (simp [*, za7, zgh, zuh, nOf, g.1] <;> done)
 · have c1 : (b.length : Int) < 14 := by omega
   have c1' : b.length < 14 := by omega
   simp [*, za7, zgh, zuh, nOf, g.1]

theorem zBV : SoundE Try.prog 39 (zbj zlb) := by
 refine zax fun args h v h' hg => ?_
 unfold zlb at hg
 split at hg
 · rename_i b
   simp only [Option.some.injEq, Prod.mk.injEq, Bool.and_eq_true, decide_eq_true_eq] at hg
   obtain ⟨⟨hb, hn⟩, rfl, rfl⟩ := hg
   refine ⟨rfl, rfl, [slB 0 (bOf h b)], [zaC (bOf h b)], .cons _ _ _ _ _ _ _ (zaJ hb 0) (.nil _), ?_⟩
   rw [← zbt hb] at hn
   exact Runs.val0 (zal zkD (zar _)) (F := 100) (n := 4) (zyh _ hn _)
 · simp at hg

theorem zBq : SoundE Try.prog 34 (zbj zhw) := by
 refine zax fun args h v h' hg => ?_
 unfold zhw at hg
 split at hg
 · rename_i b
   simp only [Option.some.injEq, Prod.mk.injEq, Bool.and_eq_true, decide_eq_true_eq] at hg
   obtain ⟨⟨hb, hn⟩, rfl, rfl⟩ := hg
   refine ⟨rfl, rfl, [slB 0 (bOf h b)], [zaC (bOf h b)], .cons _ _ _ _ _ _ _ (zaJ hb 0) (.nil _), ?_⟩
   rw [← zbt hb] at hn
   exact Runs.val0 (zal zqK (zar _)) (F := 100) (n := 4) (zvK _ hn _)
 · simp at hg

end Go.Proofs.Ytnchnjkakddhlaa.L

end

section
/- What the document says of a frame. -/
set_option autoImplicit false
set_option linter.unusedVariables false
namespace Go.Proofs.Ytnchnjkakddhlaa.L
open Go Go.Abs
open Go.IntKind (u8 u16 u32 u64 i64)
open Go.Abs.AV (int)
open Go.Abs.ABlk (cells)

def ipQ (l : List UInt8) : List UInt8 := l.drop (za7 l).1.toNat
def zfm (l : List UInt8) : Bool := decide ((za7 l).2.1 = 34525)
def rdP (l : List UInt8) : Int := if zfm l = true then byt (ipQ l) 6 else byt (ipQ l) 9
def rdS (l : List UInt8) : Int := if zfm l = true then 40 else s4 (ipQ l)
def rdE (l : List UInt8) : Int := if zfm l = true then 40 + zan (ipQ l) 4 else zan (ipQ l) 2
def rdI (l : List UInt8) : Int := if zfm l = true then r6 (ipQ l) else r4 (ipQ l)
def rdG (l : List UInt8) : List UInt8 := ((ipQ l).drop (rdS l).toNat).take (rdE l - rdS l).toNat
def zb9 (l : List UInt8) : Int :=
 if (za7 l).2.2 ≠ 0 then (za7 l).2.2 else if 65535 < l.length then 1 else if rdI l ≠ 0 then rdI l else zbW (rdP l) (rdG l)
def ze2 (l : List UInt8) : List AV := if zfm l = true then zdm (ipQ l) 8 else zhr (ipQ l) 12
def zd2 (l : List UInt8) : List AV := if zfm l = true then zdm (ipQ l) 24 else zhr (ipQ l) 16
def zaO (v : Bool) (at' sg en p : Int) (src dst : List AV) (sp dp fl : Int) : List AV := [.bool v, .int .i64 at', .int .i64 sg, .int .i64 en, .int .u8 p] ++ src ++ dst ++ [.int .u16 sp, .int .u16 dp, .int .u8 fl]
def ziB : List AV := zbx false 0 0 0 0 0 0 0 0 0 0 0 0 0 0 0 0
def zl1 : List AV := zaO false 0 0 0 0 ziB ziB 0 0 0
def zjs (l : List UInt8) : List AV :=
 if zb9 l = 0 then zaO (zfm l) (za7 l).1 ((za7 l).1 + rdS l) ((za7 l).1 + rdE l) (rdP l) (ze2 l) (zd2 l) (zan (rdG l) 0) (zan (rdG l) 2) (zca (rdP l) (rdG l)) else zl1
def zci (l : List UInt8) : AV := .tup [.agg (zjs l), .int .i64 (zb9 l)]
def zk7 : zdD := fun args h => match args with
 | [b] => some (bOk h b && decide (nOf b ≤ 1000000000000), zci (bOf h b), h)
 | _ => none

theorem zdg {l : List UInt8} {r : Int} (h : zb9 l = r) (h0 : r ≠ 0) : zci l = .tup [.agg zl1, .int .i64 r] := by
 unfold zci zjs; rw [h, if_neg h0]
theorem zmI {l : List UInt8} {r : Int} (h : (za7 l).2.2 = r) (h0 : r ≠ 0) : zb9 l = r := by unfold zb9; rw [h, if_pos h0]
theorem zkG {l : List UInt8} (h : (za7 l).2.2 = 0) (h0 : 65535 < l.length) : zb9 l = 1 := by unfold zb9; rw [if_neg (by rw [h]; simp), if_pos h0]
theorem zis {l : List UInt8} {r : Int} (h : (za7 l).2.2 = 0) (h0 : ¬ 65535 < l.length) (hr : rdI l = r) (hn : r ≠ 0) : zb9 l = r := by unfold zb9; rw [if_neg (by rw [h]; simp), if_neg h0, hr, if_pos hn]
theorem zcG {l : List UInt8} (h : (za7 l).2.2 = 0) (h0 : ¬ 65535 < l.length) (hr : rdI l = 0) : zb9 l = zbW (rdP l) (rdG l) := by unfold zb9; rw [if_neg (by rw [h]; simp), if_neg h0, if_neg (by rw [hr]; simp)]
theorem zrU {l : List UInt8} (h : (za7 l).2.2 = 0) : ∃ A : Nat, (za7 l).1 = (A : Int) ∧ (A = 14 ∨ A = 18) ∧ A ≤ l.length ∧ ((za7 l).2.1 = 2048 ∨ (za7 l).2.1 = 34525) := by
 rcases zhI l with ⟨_, h1, h2⟩ | ⟨_, _, h1⟩
 · rcases h1 with ⟨e, hl⟩ | ⟨e, hl⟩
   · exact ⟨14, e, .inl rfl, hl, h2⟩
   · exact ⟨18, e, .inr rfl, hl, h2⟩
 · omega

theorem zAh {l : List UInt8} (h : r4 l = 0) : zbu l = .tup [.agg ([.int .i64 (s4 l), .int .i64 (zan l 2), .int .u8 (byt l 9)] ++ zhr l 12 ++ zhr l 16), .int .i64 0] := by
 unfold zbu zdo zdl z4; simp only [h, if_true]; rfl
theorem zBF {l : List UInt8} {r : Int} (h : r4 l = r) (h0 : r ≠ 0) : zbu l = .tup [.agg ([.int .i64 0, .int .i64 0, .int .u8 0] ++ ziB ++ ziB), .int .i64 r] := by
 have e : ∀ x, z4 l x = 0 := fun x => by unfold z4; rw [h, if_neg h0]
 unfold zbu zdo zdl; simp only [e, h]; rfl
theorem zAK {l : List UInt8} (h : r6 l = 0) : zd1 l = .tup [.agg ([.int .i64 (40 + zan l 4), .int .u8 (byt l 6)] ++ zdm l 8 ++ zdm l 24), .int .i64 0] ∧ zcT l = .tup [.agg ([.int .i64 40, .int .i64 (40 + zan l 4), .int .u8 (byt l 6)] ++ zdm l 8 ++ zdm l 24), .int .i64 0] := by
 unfold zd1 zcT zfs zfq z6; simp only [h, if_true, decide_true]; exact ⟨rfl, rfl⟩
theorem zBJ {l : List UInt8} {r : Int} (h : r6 l = r) (h0 : r ≠ 0) : zd1 l = .tup [.agg ([.int .i64 0, .int .u8 0] ++ ziB ++ ziB), .int .i64 r] ∧ zcT l = .tup [.agg ([.int .i64 0, .int .i64 0, .int .u8 0] ++ ziB ++ ziB), .int .i64 r] := by
 have e : ∀ x, z6 l x = 0 := fun x => by unfold z6; rw [h, if_neg h0]
 have e2 : decide (r6 l = 0) = false := decide_eq_false (by rw [h]; exact h0)
 unfold zd1 zcT zfs zfq; simp only [e, e2]; rw [h]; exact ⟨rfl, rfl⟩

theorem zfB {l : List UInt8} (h : r4 l = 0) : 20 ≤ l.length ∧ 20 ≤ s4 l ∧ s4 l ≤ zan l 2 ∧ zan l 2 ≤ l.length ∧ (byt l 9 = 6 ∨ byt l 9 = 17) ∧ zft (l.take (s4 l).toNat) = 0 := by
 unfold r4 at h
 split at h; · omega
 split at h; · omega
 split at h; · omega
 split at h; · omega
 split at h; · omega
 split at h; · omega
 split at h; · omega
 split at h; · omega
 refine ⟨by omega, by omega, by omega, by omega, ?_, by omega⟩
 rename_i hp
 by_cases h6 : byt l 9 = 6
 · exact .inl h6
 · right; by_cases h17 : byt l 9 = 17
   · exact h17
   · exact absurd ⟨h6, h17⟩ hp
theorem zfR {l : List UInt8} (h : r6 l = 0) : 40 ≤ l.length ∧ 40 + zan l 4 ≤ l.length ∧ (byt l 6 = 6 ∨ byt l 6 = 17) := by
 unfold r6 at h
 split at h; · omega
 split at h; · omega
 split at h; · omega
 split at h; · omega
 split at h; · omega
 refine ⟨by omega, by omega, ?_⟩
 rename_i hp
 by_cases h6 : byt l 6 = 6
 · exact .inl h6
 · right; by_cases h17 : byt l 6 = 17
   · exact h17
   · exact absurd ⟨h6, h17⟩ hp
theorem zbf {h : zaa} {k o n r : Nat} {e : Bool} {vs : List AV} {md : Md} {par : Option Nat} {l L : List UInt8} (hk : h[k]? = some (.cells vs 1 md par)) (hv : vs = bys l) (hn : o + n ≤ l.length) (hL : (l.drop o).take n = L) :
 bOk h (.sl (some (k, o)) n r e) = true ∧ bOf h (.sl (some (k, o)) n r e) = L := by
 have g := zu9 (r := r) (e := e) hk hv hn
 exact ⟨g.1, g.2.trans hL⟩
theorem zmU {l : List UInt8} {A : Nat} {S E : Int} (hA : (za7 l).1 = (A : Int)) (hS : rdS l = S) (hE : rdE l = E) (h0 : 0 ≤ S) (h1 : S ≤ E) : (l.drop (0 + ((A : Int) + S).toNat * 1)).take (((A : Int) + E).toNat - ((A : Int) + S).toNat) = rdG l := by
 unfold rdG ipQ
 rw [hA, hS, hE, List.drop_drop]
 congr 1
 · omega
 · congr 1; omega
theorem zfo {l : List UInt8} {A : Nat} (hA : (za7 l).1 = (A : Int)) : (l.drop (0 + (A : Int).toNat * 1)).take (l.length - (A : Int).toNat) = ipQ l := by
 unfold ipQ
 rw [hA, List.take_of_length_le (by simp <;> omega)]
 congr 1; omega

end Go.Proofs.Ytnchnjkakddhlaa.L

end

section
/- seg's Read, and the reference's ReadSeg. -/
set_option autoImplicit false
set_option maxRecDepth 100000
set_option linter.unusedVariables false
set_option linter.unusedSimpArgs false
namespace Go.Proofs.Ytnchnjkakddhlaa.L
open Go Go.Abs
open Go.IntKind (u8 u16 u32 u64 i64)
open Go.Abs.AV (int)
open Go.Abs.ABlk (cells)

noncomputable def zvR : zdD := fun args h => match args with
 | [b, .int .i64 p] => some (bOk h b && decide ((nOf b : Int) < 9223372036854775000 ∧ 0 ≤ p ∧ p + 2 ≤ (nOf b : Int)), .tup [.int .u16 (zan (bOf h b) p.toNat), .bool true], h)
 | _ => none
theorem zBG : SoundE Try.prog 43 (zbj zvR) := by
 refine zga zkD fun args hp v h' hg => ?_
 unfold zvR at hg
 split at hg
 · rename_i b p
   simp only [Option.some.injEq, Prod.mk.injEq, Bool.and_eq_true, decide_eq_true_eq] at hg
   obtain ⟨⟨hb, hn, h0, h1⟩, rfl, rfl⟩ := hg
   have hl := zbt hb
   change zvn zif [b, .int .i64 p] hp (fun v h => some (v, h)) = _
   show (if (bOk hp b && decide ((nOf b : Int) < 9223372036854775000)) = true then some (zyP .u16 2 (bOf hp b) p, hp) else none) = _
   rw [hb, decide_eq_true hn]
   have e : zyP .u16 2 (bOf hp b) p = .tup [.int .u16 (zan (bOf hp b) p.toNat), .bool true] := by
    unfold zyP
    have hc : (0 ≤ p ∧ p + ((2 : Nat) : Int) ≤ ((bOf hp b).length : Int)) := ⟨h0, by rw [hl]; exact h1⟩
    rw [if_pos hc, decide_eq_true hc, zcm (by omega)]
   rw [e]; rfl
 · simp at hg

noncomputable def zyL : Tbl := [(43, zbj zvR)]
theorem zrp : ∀ f E, zyL.find f = some E → SoundE Try.prog f E := zal zBG (zar _)
noncomputable def zp4 : Tbl := [(50, zbj ziJ)]
theorem znZ : ∀ f E, zp4.find f = some E → SoundE Try.prog f E := zal zqK (zar _)

noncomputable def zoe (l : List UInt8) : zaa := [cells (bys l) 1 Md.far none, cells [int u16 0, int u16 0, int u8 0] 3 Md.own none]
noncomputable def zst (l : List UInt8) : zaa := [cells (bys l) 1 Md.far none, cells [int u16 (zan (bOf (zoe l) (AV.sl (some (0, 0)) l.length 0 false)) 0), int u16 0, int u8 0] 3 Md.own none]
theorem zyU {R : Type} (l : List UInt8) (K : AV → Option R) :
 zbs Try.prog zyL 100 4 [] [] 41 [.int .u8 6, slB 0 l] [zaC l] (fun v _ => K v) =
 (if decide ((l.length : Int) < 20) = true then
 K (AV.tup [AV.agg [int u16 0, int u16 0, int u8 0], int i64 1])
 else (if Int.ofNat 0 ≤ Int.ofNat 12 ∧ 12 < (l.length : Int) then
 (if zaI u8 (bys l)[12]? = true then
 (if decide (i64.wrap (i64.wrap ((zad (bys l)[12]?).fdiv 16) * 4) < 20) = true then
 K (AV.tup [AV.agg [int u16 0, int u16 0, int u8 0], int i64 3])
 else (if decide (i64.wrap (i64.wrap ((zad (bys l)[12]?).fdiv 16) * 4) > (l.length : Int)) = true then
 K (AV.tup [AV.agg [int u16 0, int u16 0, int u8 0], int i64 3])
 else (if (bOk (zoe l) (AV.sl (some (0, 0)) l.length 0 false) && decide ((((nOf (AV.sl (some (0, 0)) l.length 0 false)) : Nat) : Int) < 9223372036854775000 ∧ Int.ofNat 0 ≤ Int.ofNat 0 ∧ 2 ≤ (((nOf (AV.sl (some (0, 0)) l.length 0 false)) : Nat) : Int))) = true then
 (if (bOk (zst l) (AV.sl (some (0, 0)) l.length 0 false) && decide ((((nOf (AV.sl (some (0, 0)) l.length 0 false)) : Nat) : Int) < 9223372036854775000 ∧ Int.ofNat 0 ≤ Int.ofNat 2 ∧ 4 ≤ (((nOf (AV.sl (some (0, 0)) l.length 0 false)) : Nat) : Int))) = true then
 (if Int.ofNat 0 ≤ Int.ofNat 13 ∧ 13 < (l.length : Int) then
 (if zaI u8 (bys l)[13]? = true then
 K (AV.tup [AV.agg [int u16 (zan (bOf (zoe l) (AV.sl (some (0, 0)) l.length 0 false)) 0), int u16 (zan (bOf (zst l) (AV.sl (some (0, 0)) l.length 0 false)) 2), int u8 (zad (bys l)[13]?)], int i64 0])
 else none) else none) else none) else none)))
 else none) else none)) := by
  kernel_rfl

noncomputable def zi0 (l : List UInt8) : zaa := [cells (bys l) 1 Md.far none, cells [int u16 0, int u16 0, int u8 0] 3 Md.own none]
noncomputable def zry (l : List UInt8) : zaa := [cells (bys l) 1 Md.far none, cells [int u16 (zan (bOf (zi0 l) (AV.sl (some (0, 0)) l.length 0 false)) 0), int u16 0, int u8 0] 3 Md.own none]
theorem zAE {R : Type} (l : List UInt8) (K : AV → Option R) :
 zbs Try.prog zyL 100 4 [] [] 41 [.int .u8 17, slB 0 l] [zaC l] (fun v _ => K v) =
 (if decide ((l.length : Int) < 8) = true then
 K (AV.tup [AV.agg [int u16 0, int u16 0, int u8 0], int i64 1])
 else (if (bOk (zi0 l) (AV.sl (some (0, 0)) l.length 0 false) && decide ((((nOf (AV.sl (some (0, 0)) l.length 0 false)) : Nat) : Int) < 9223372036854775000 ∧ Int.ofNat 0 ≤ Int.ofNat 4 ∧ 6 ≤ (((nOf (AV.sl (some (0, 0)) l.length 0 false)) : Nat) : Int))) = true then
 (if decide (i64.wrap (zan (bOf (zi0 l) (AV.sl (some (0, 0)) l.length 0 false)) 4) < 8) = true then
 K (AV.tup [AV.agg [int u16 0, int u16 0, int u8 0], int i64 3])
 else (if decide (i64.wrap (zan (bOf (zi0 l) (AV.sl (some (0, 0)) l.length 0 false)) 4) > (l.length : Int)) = true then
 K (AV.tup [AV.agg [int u16 0, int u16 0, int u8 0], int i64 3])
 else (if (bOk (zi0 l) (AV.sl (some (0, 0)) l.length 0 false) && decide ((((nOf (AV.sl (some (0, 0)) l.length 0 false)) : Nat) : Int) < 9223372036854775000 ∧ Int.ofNat 0 ≤ Int.ofNat 0 ∧ 2 ≤ (((nOf (AV.sl (some (0, 0)) l.length 0 false)) : Nat) : Int))) = true then
 (if (bOk (zry l) (AV.sl (some (0, 0)) l.length 0 false) && decide ((((nOf (AV.sl (some (0, 0)) l.length 0 false)) : Nat) : Int) < 9223372036854775000 ∧ Int.ofNat 0 ≤ Int.ofNat 2 ∧ 4 ≤ (((nOf (AV.sl (some (0, 0)) l.length 0 false)) : Nat) : Int))) = true then
 K (AV.tup [AV.agg [int u16 (zan (bOf (zi0 l) (AV.sl (some (0, 0)) l.length 0 false)) 0), int u16 (zan (bOf (zry l) (AV.sl (some (0, 0)) l.length 0 false)) 2), int u8 0], int i64 0])
 else none) else none)))
 else none)) := by
  kernel_rfl

theorem zAv {R : Type} (p : Int) (l : List UInt8) (K : AV → Option R) :
 zbs Try.prog zyL 100 4 [(10, .bool false), (12, .bool false)] [] 41 [.int .u8 p, slB 0 l] [zaC l] (fun v _ => K v) =
 (if (p == 6) = false then
 (if (p == 17) = false then
 K (AV.tup [AV.agg [int u16 0, int u16 0, int u8 0], int i64 6])
 else none) else none) := by
  kernel_rfl

noncomputable def zi2 (l : List UInt8) : zaa := [cells (bys l) 1 Md.far none, cells [int i64 0, int i64 0, int u8 0] 3 Md.own none]
theorem zxO {R : Type} (l : List UInt8) (K : AV → Option R) :
 zbs Try.prog zp4 100 4 [] [] 37 [.int .u8 6, slB 0 l] [zaC l] (fun v _ => K v) =
 (if decide ((l.length : Int) < 20) = true then
 K (AV.tup [AV.agg [int i64 0, int i64 0, int u8 0], int i64 1])
 else (if Int.ofNat 0 ≤ Int.ofNat 12 ∧ 12 < (l.length : Int) then
 (if zaI u8 (bys l)[12]? = true then
 (if decide (i64.wrap (i64.wrap ((zad (bys l)[12]?).fdiv 16) * 4) < 20) = true then
 K (AV.tup [AV.agg [int i64 0, int i64 0, int u8 0], int i64 3])
 else (if decide ((l.length : Int) < i64.wrap (i64.wrap ((zad (bys l)[12]?).fdiv 16) * 4)) = true then
 K (AV.tup [AV.agg [int i64 0, int i64 0, int u8 0], int i64 3])
 else (if (bOk (zi2 l) (AV.sl (some (0, 0)) l.length 0 false) && decide (nOf (AV.sl (some (0, 0)) l.length 0 false) ≤ 70368744177664 ∧ Int.ofNat 0 ≤ Int.ofNat 0 ∧ 2 ≤ (((nOf (AV.sl (some (0, 0)) l.length 0 false)) : Nat) : Int))) = true then
 (if (bOk (zi2 l) (AV.sl (some (0, 0)) l.length 0 false) && decide (nOf (AV.sl (some (0, 0)) l.length 0 false) ≤ 70368744177664 ∧ Int.ofNat 0 ≤ Int.ofNat 2 ∧ 4 ≤ (((nOf (AV.sl (some (0, 0)) l.length 0 false)) : Nat) : Int))) = true then
 (if Int.ofNat 0 ≤ Int.ofNat 13 ∧ 13 < (l.length : Int) then
 (if zaI u8 (bys l)[13]? = true then
 (if zaI u8 (bys l)[13]? = true then
 (if (int u8 (zad (bys l)[13]?)).beq (int u8 (zad (bys l)[13]?)) = true then
 (if zaI u8 (bys l)[13]? = true then
 (if (int u8 (zad (bys l)[13]?)).beq (int u8 (zad (bys l)[13]?)) = true then
 K (AV.tup [AV.agg [int i64 (zan (bOf (zi2 l) (AV.sl (some (0, 0)) l.length 0 false)) 0), int i64 (zan (bOf (zi2 l) (AV.sl (some (0, 0)) l.length 0 false)) 2), int u8 (zad (bys l)[13]?)], int i64 0])
 else none) else none) else none) else none) else none) else none) else none) else none)))
 else none) else none)) := by
  kernel_rfl

noncomputable def zfS (l : List UInt8) : zaa := [cells (bys l) 1 Md.far none, cells [int i64 0, int i64 0, int u8 0] 3 Md.own none]
theorem zyl {R : Type} (l : List UInt8) (K : AV → Option R) :
 zbs Try.prog zp4 100 4 [] [] 37 [.int .u8 17, slB 0 l] [zaC l] (fun v _ => K v) =
 (if decide ((l.length : Int) < 8) = true then
 K (AV.tup [AV.agg [int i64 0, int i64 0, int u8 0], int i64 1])
 else (if (bOk (zfS l) (AV.sl (some (0, 0)) l.length 0 false) && decide (nOf (AV.sl (some (0, 0)) l.length 0 false) ≤ 70368744177664 ∧ Int.ofNat 0 ≤ Int.ofNat 4 ∧ 6 ≤ (((nOf (AV.sl (some (0, 0)) l.length 0 false)) : Nat) : Int))) = true then
 (if decide (zan (bOf (zfS l) (AV.sl (some (0, 0)) l.length 0 false)) 4 < 8) = true then
 K (AV.tup [AV.agg [int i64 0, int i64 0, int u8 0], int i64 3])
 else (if decide ((l.length : Int) < zan (bOf (zfS l) (AV.sl (some (0, 0)) l.length 0 false)) 4) = true then
 K (AV.tup [AV.agg [int i64 0, int i64 0, int u8 0], int i64 3])
 else (if (bOk (zfS l) (AV.sl (some (0, 0)) l.length 0 false) && decide (nOf (AV.sl (some (0, 0)) l.length 0 false) ≤ 70368744177664 ∧ Int.ofNat 0 ≤ Int.ofNat 0 ∧ 2 ≤ (((nOf (AV.sl (some (0, 0)) l.length 0 false)) : Nat) : Int))) = true then
 (if (bOk (zfS l) (AV.sl (some (0, 0)) l.length 0 false) && decide (nOf (AV.sl (some (0, 0)) l.length 0 false) ≤ 70368744177664 ∧ Int.ofNat 0 ≤ Int.ofNat 2 ∧ 4 ≤ (((nOf (AV.sl (some (0, 0)) l.length 0 false)) : Nat) : Int))) = true then
 K (AV.tup [AV.agg [int i64 (zan (bOf (zfS l) (AV.sl (some (0, 0)) l.length 0 false)) 0), int i64 (zan (bOf (zfS l) (AV.sl (some (0, 0)) l.length 0 false)) 2), int u8 0], int i64 0])
 else none) else none)))
 else none)) := by
  kernel_rfl

theorem zxT {R : Type} (p : Int) (l : List UInt8) (K : AV → Option R) :
 zbs Try.prog zp4 100 4 [(9, .bool false), (38, .bool false)] [] 37 [.int .u8 p, slB 0 l] [zaC l] (fun v _ => K v) =
 (if (p == 6) = false then
 (if (p == 17) = false then
 K (AV.tup [AV.agg [int i64 0, int i64 0, int u8 0], int i64 6])
 else none) else none) := by
  kernel_rfl



set_option maxHeartbeats 2000000 in
theorem zvM (l : List UInt8) (hl : l.length ≤ 1000000000000) : zbs Try.prog zyL 100 4 [] [] 41 [.int .u8 6, slB 0 l] [zaC l] (fun v _ => some v) = some (zcb 6 l) := by
 rw [zyU]
 simp only [zoe, zst, ↓Bool.and_eq_true, ↓decide_eq_true_eq, bOk, bOf, zd6, zdA, zby, List.getElem?_cons_zero, List.getElem?_cons_succ, Nat.zero_add, Nat.mul_one, Nat.add_zero, List.drop_zero, zb1, zbF, zba, za2, List.take_length, zah, zbl, zay, zaM, zbk, zcC, Bool.and_true, Bool.true_and, AV.beq_self, zlJ]
 have hb := zaS l 12
 have hw := zau l 4
 have w1 : i64.wrap (byt l 12 / 16) = byt l 12 / 16 := zao (by omega)
 have w2 : i64.wrap (byt l 12 / 16 * 4) = byt l 12 / 16 * 4 := zao (by omega)
 have w3 : i64.wrap (zan l 4) = zan l 4 := zao (by omega)
 try simp only [w1, w2, w3]
 by_cases h1 : l.length < 20
 · have hr : zbW 6 l = 1 := by unfold zbW; rw [if_pos rfl, if_pos h1]
   repeat (first | (refine (if_pos ?_).trans ?_; · first | exact True.intro | omega | (simp [zai]; done) | (simp [zai]; omega)) | (refine (if_neg ?_).trans ?_; · first | omega | (simp; done) | (simp; omega)))
   simp [zcb, zho, zca, hr]
 by_cases h2 : byt l 12 / 16 * 4 < 20
 · have hr : zbW 6 l = 3 := by unfold zbW; rw [if_pos rfl, if_neg h1, if_pos h2]
   repeat (first | (refine (if_pos ?_).trans ?_; · first | exact True.intro | omega | (simp [zai]; done) | (simp [zai]; omega)) | (refine (if_neg ?_).trans ?_; · first | omega | (simp; done) | (simp; omega)))
   simp [zcb, zho, zca, hr]
 by_cases h3 : (l.length : Int) < byt l 12 / 16 * 4
 · have hr : zbW 6 l = 3 := by unfold zbW; rw [if_pos rfl, if_neg h1, if_neg h2, if_pos h3]
   repeat (first | (refine (if_pos ?_).trans ?_; · first | exact True.intro | omega | (simp [zai]; done) | (simp [zai]; omega)) | (refine (if_neg ?_).trans ?_; · first | omega | (simp; done) | (simp; omega)))
   simp [zcb, zho, zca, hr]
 have hr : zbW 6 l = 0 := by unfold zbW; rw [if_pos rfl, if_neg h1, if_neg h2, if_neg h3]
 repeat (first | (refine (if_pos ?_).trans ?_; · first | exact True.intro | omega | (simp [zai]; done) | (simp [zai]; omega)) | (refine (if_neg ?_).trans ?_; · first | omega | (simp; done) | (simp; omega)))
 simp [zcb, zho, zca, hr]

set_option maxHeartbeats 2000000 in
theorem zvu (l : List UInt8) (hl : l.length ≤ 1000000000000) : zbs Try.prog zyL 100 4 [] [] 41 [.int .u8 17, slB 0 l] [zaC l] (fun v _ => some v) = some (zcb 17 l) := by
 rw [zAE]
 simp only [zi0, zry, ↓Bool.and_eq_true, ↓decide_eq_true_eq, bOk, bOf, zd6, zdA, zby, List.getElem?_cons_zero, List.getElem?_cons_succ, Nat.zero_add, Nat.mul_one, Nat.add_zero, List.drop_zero, zb1, zbF, zba, za2, List.take_length, zah, zbl, zay, zaM, zbk, zcC, Bool.and_true, Bool.true_and, AV.beq_self, zlJ]
 have hb := zaS l 12
 have hw := zau l 4
 have w1 : i64.wrap (byt l 12 / 16) = byt l 12 / 16 := zao (by omega)
 have w2 : i64.wrap (byt l 12 / 16 * 4) = byt l 12 / 16 * 4 := zao (by omega)
 have w3 : i64.wrap (zan l 4) = zan l 4 := zao (by omega)
 try simp only [w1, w2, w3]
 by_cases h1 : l.length < 8
 · have hr : zbW 17 l = 1 := by unfold zbW; rw [if_neg (by decide), if_pos rfl, if_pos h1]
   repeat (first | (refine (if_pos ?_).trans ?_; · first | exact True.intro | omega | (simp [zai]; done) | (simp [zai]; omega)) | (refine (if_neg ?_).trans ?_; · first | omega | (simp; done) | (simp; omega)))
   simp [zcb, zho, zca, hr]
 by_cases h2 : zan l 4 < 8
 · have hr : zbW 17 l = 3 := by unfold zbW; rw [if_neg (by decide), if_pos rfl, if_neg h1, if_pos h2]
   repeat (first | (refine (if_pos ?_).trans ?_; · first | exact True.intro | omega | (simp [zai]; done) | (simp [zai]; omega)) | (refine (if_neg ?_).trans ?_; · first | omega | (simp; done) | (simp; omega)))
   simp [zcb, zho, zca, hr]
 by_cases h3 : (l.length : Int) < zan l 4
 · have hr : zbW 17 l = 3 := by unfold zbW; rw [if_neg (by decide), if_pos rfl, if_neg h1, if_neg h2, if_pos h3]
   repeat (first | (refine (if_pos ?_).trans ?_; · first | exact True.intro | omega | (simp [zai]; done) | (simp [zai]; omega)) | (refine (if_neg ?_).trans ?_; · first | omega | (simp; done) | (simp; omega)))
   simp [zcb, zho, zca, hr]
 have hr : zbW 17 l = 0 := by unfold zbW; rw [if_neg (by decide), if_pos rfl, if_neg h1, if_neg h2, if_neg h3]
 repeat (first | (refine (if_pos ?_).trans ?_; · first | exact True.intro | omega | (simp [zai]; done) | (simp [zai]; omega)) | (refine (if_neg ?_).trans ?_; · first | omega | (simp; done) | (simp; omega)))
 simp [zcb, zho, zca, hr]

set_option maxHeartbeats 2000000 in
theorem zrn (l : List UInt8) (hl : l.length ≤ 1000000000000) : zbs Try.prog zp4 100 4 [] [] 37 [.int .u8 6, slB 0 l] [zaC l] (fun v _ => some v) = some (zbS 6 l) := by
 rw [zxO]
 simp only [zi2, ↓Bool.and_eq_true, ↓decide_eq_true_eq, bOk, bOf, zd6, zdA, zby, List.getElem?_cons_zero, List.getElem?_cons_succ, Nat.zero_add, Nat.mul_one, Nat.add_zero, List.drop_zero, zb1, zbF, zba, za2, List.take_length, zah, zbl, zay, zaM, zbk, zcC, Bool.and_true, Bool.true_and, AV.beq_self, zlJ]
 have hb := zaS l 12
 have hw := zau l 4
 have w1 : i64.wrap (byt l 12 / 16) = byt l 12 / 16 := zao (by omega)
 have w2 : i64.wrap (byt l 12 / 16 * 4) = byt l 12 / 16 * 4 := zao (by omega)
 have w3 : i64.wrap (zan l 4) = zan l 4 := zao (by omega)
 try simp only [w1, w2, w3]
 by_cases h1 : l.length < 20
 · have hr : zbW 6 l = 1 := by unfold zbW; rw [if_pos rfl, if_pos h1]
   repeat (first | (refine (if_pos ?_).trans ?_; · first | exact True.intro | omega | (simp [zai]; done) | (simp [zai]; omega)) | (refine (if_neg ?_).trans ?_; · first | omega | (simp; done) | (simp; omega)))
   simp [zbS, zho, zca, hr]
 by_cases h2 : byt l 12 / 16 * 4 < 20
 · have hr : zbW 6 l = 3 := by unfold zbW; rw [if_pos rfl, if_neg h1, if_pos h2]
   repeat (first | (refine (if_pos ?_).trans ?_; · first | exact True.intro | omega | (simp [zai]; done) | (simp [zai]; omega)) | (refine (if_neg ?_).trans ?_; · first | omega | (simp; done) | (simp; omega)))
   simp [zbS, zho, zca, hr]
 by_cases h3 : (l.length : Int) < byt l 12 / 16 * 4
 · have hr : zbW 6 l = 3 := by unfold zbW; rw [if_pos rfl, if_neg h1, if_neg h2, if_pos h3]
   repeat (first | (refine (if_pos ?_).trans ?_; · first | exact True.intro | omega | (simp [zai]; done) | (simp [zai]; omega)) | (refine (if_neg ?_).trans ?_; · first | omega | (simp; done) | (simp; omega)))
   simp [zbS, zho, zca, hr]
 have hr : zbW 6 l = 0 := by unfold zbW; rw [if_pos rfl, if_neg h1, if_neg h2, if_neg h3]
 repeat (first | (refine (if_pos ?_).trans ?_; · first | exact True.intro | omega | (simp [zai]; done) | (simp [zai]; omega)) | (refine (if_neg ?_).trans ?_; · first | omega | (simp; done) | (simp; omega)))
 simp [zbS, zho, zca, hr]

set_option maxHeartbeats 2000000 in
theorem zqX (l : List UInt8) (hl : l.length ≤ 1000000000000) : zbs Try.prog zp4 100 4 [] [] 37 [.int .u8 17, slB 0 l] [zaC l] (fun v _ => some v) = some (zbS 17 l) := by
 rw [zyl]
 simp only [zfS, ↓Bool.and_eq_true, ↓decide_eq_true_eq, bOk, bOf, zd6, zdA, zby, List.getElem?_cons_zero, List.getElem?_cons_succ, Nat.zero_add, Nat.mul_one, Nat.add_zero, List.drop_zero, zb1, zbF, zba, za2, List.take_length, zah, zbl, zay, zaM, zbk, zcC, Bool.and_true, Bool.true_and, AV.beq_self, zlJ]
 have hb := zaS l 12
 have hw := zau l 4
 have w1 : i64.wrap (byt l 12 / 16) = byt l 12 / 16 := zao (by omega)
 have w2 : i64.wrap (byt l 12 / 16 * 4) = byt l 12 / 16 * 4 := zao (by omega)
 have w3 : i64.wrap (zan l 4) = zan l 4 := zao (by omega)
 try simp only [w1, w2, w3]
 by_cases h1 : l.length < 8
 · have hr : zbW 17 l = 1 := by unfold zbW; rw [if_neg (by decide), if_pos rfl, if_pos h1]
   repeat (first | (refine (if_pos ?_).trans ?_; · first | exact True.intro | omega | (simp [zai]; done) | (simp [zai]; omega)) | (refine (if_neg ?_).trans ?_; · first | omega | (simp; done) | (simp; omega)))
   simp [zbS, zho, zca, hr]
 by_cases h2 : zan l 4 < 8
 · have hr : zbW 17 l = 3 := by unfold zbW; rw [if_neg (by decide), if_pos rfl, if_neg h1, if_pos h2]
   repeat (first | (refine (if_pos ?_).trans ?_; · first | exact True.intro | omega | (simp [zai]; done) | (simp [zai]; omega)) | (refine (if_neg ?_).trans ?_; · first | omega | (simp; done) | (simp; omega)))
   simp [zbS, zho, zca, hr]
 by_cases h3 : (l.length : Int) < zan l 4
 · have hr : zbW 17 l = 3 := by unfold zbW; rw [if_neg (by decide), if_pos rfl, if_neg h1, if_neg h2, if_pos h3]
   repeat (first | (refine (if_pos ?_).trans ?_; · first | exact True.intro | omega | (simp [zai]; done) | (simp [zai]; omega)) | (refine (if_neg ?_).trans ?_; · first | omega | (simp; done) | (simp; omega)))
   simp [zbS, zho, zca, hr]
 have hr : zbW 17 l = 0 := by unfold zbW; rw [if_neg (by decide), if_pos rfl, if_neg h1, if_neg h2, if_neg h3]
 repeat (first | (refine (if_pos ?_).trans ?_; · first | exact True.intro | omega | (simp [zai]; done) | (simp [zai]; omega)) | (refine (if_neg ?_).trans ?_; · first | omega | (simp; done) | (simp; omega)))
 simp [zbS, zho, zca, hr]

theorem zzQ : SoundE Try.prog 41 (zbj zgL) := by
 refine zax fun args h v h' hg => ?_
 unfold zgL at hg
 split at hg
 · rename_i p b
   simp only [Option.some.injEq, Prod.mk.injEq, Bool.and_eq_true, decide_eq_true_eq] at hg
   obtain ⟨⟨hb, hn⟩, rfl, rfl⟩ := hg
   rw [← zbt hb] at hn
   refine ⟨rfl, rfl, [.int .u8 p, slB 0 (bOf h b)], [zaC (bOf h b)], .cons _ _ _ _ _ _ _ (.flat _ _ rfl) (.cons _ _ _ _ _ _ _ (zaJ hb 0) (.nil _)), ?_⟩
   generalize bOf h b = l at hn
   by_cases h6 : p = 6
   · subst h6
     exact Runs.valT0 zrp (F := 100) (n := 4) (pr := []) (zvM l hn)
   by_cases h17 : p = 17
   · subst h17
     exact Runs.valT0 zrp (F := 100) (n := 4) (pr := []) (zvu l hn)
   refine Runs.valT0 zrp (F := 100) (n := 4) (pr := [(10, .bool false), (12, .bool false)]) ?_
   rw [zAv]
   have hr : zbW p l = 6 := by unfold zbW; rw [if_neg h6, if_neg h17]
   refine (if_pos (beq_eq_false_iff_ne.2 h6)).trans ?_
   refine (if_pos (beq_eq_false_iff_ne.2 h17)).trans ?_
   simp [zcb, zho, zca, hr]
 · simp at hg

theorem zwn : SoundE Try.prog 37 (zbj zdI) := by
 refine zax fun args h v h' hg => ?_
 unfold zdI at hg
 split at hg
 · rename_i p b
   simp only [Option.some.injEq, Prod.mk.injEq, Bool.and_eq_true, decide_eq_true_eq] at hg
   obtain ⟨⟨hb, hn⟩, rfl, rfl⟩ := hg
   rw [← zbt hb] at hn
   refine ⟨rfl, rfl, [.int .u8 p, slB 0 (bOf h b)], [zaC (bOf h b)], .cons _ _ _ _ _ _ _ (.flat _ _ rfl) (.cons _ _ _ _ _ _ _ (zaJ hb 0) (.nil _)), ?_⟩
   generalize bOf h b = l at hn
   by_cases h6 : p = 6
   · subst h6
     exact Runs.valT0 znZ (F := 100) (n := 4) (pr := []) (zrn l hn)
   by_cases h17 : p = 17
   · subst h17
     exact Runs.valT0 znZ (F := 100) (n := 4) (pr := []) (zqX l hn)
   refine Runs.valT0 znZ (F := 100) (n := 4) (pr := [(9, .bool false), (38, .bool false)]) ?_
   rw [zxT]
   have hr : zbW p l = 6 := by unfold zbW; rw [if_neg h6, if_neg h17]
   refine (if_pos (beq_eq_false_iff_ne.2 h6)).trans ?_
   refine (if_pos (beq_eq_false_iff_ne.2 h17)).trans ?_
   simp [zbS, zho, zca, hr]
 · simp at hg

end Go.Proofs.Ytnchnjkakddhlaa.L

end

section
/- Functions of octet, chksum, addr and the reference, their answers told. -/
set_option autoImplicit false
set_option maxRecDepth 100000
set_option linter.unusedVariables false
namespace Go.Proofs.Ytnchnjkakddhlaa.L
open Go Go.Abs
open Go.IntKind (u8 u16 u32 u64 i64)
open Go.Abs.AV (int)
open Go.Abs.ABlk (cells)

theorem zAS {h : zaa} {a : AV} {l : List UInt8} {p w : Int} {q : Nat} (g : bOk h a = true ∧ bOf h a = l) (hn : (nOf a : Int) < 9223372036854775000 ∧ 0 ≤ p ∧ p + 2 ≤ (nOf a : Int)) (hq : p.toNat = q) (hw : zan l q = w) : Says zvR [a, .int .i64 p] h (.tup [.int .u16 w, .bool true]) [] := ⟨by
 show some (bOk h a && decide ((nOf a : Int) < 9223372036854775000 ∧ 0 ≤ p ∧ p + 2 ≤ (nOf a : Int)), AV.tup [.int .u16 (zan (bOf h a) p.toNat), .bool true], h) = _
 rw [g.1, g.2, hq, hw, decide_eq_true hn, List.append_nil]; rfl⟩
theorem zxp {h : zaa} {a : AV} {l : List UInt8} {p w : Int} {q : Nat} (g : bOk h a = true ∧ bOf h a = l) (hn : nOf a ≤ 70368744177664 ∧ 0 ≤ p ∧ p + 2 ≤ (nOf a : Int)) (hq : p.toNat = q) (hw : zan l q = w) : Says ziJ [a, .int .i64 p] h (.int .i64 w) [] := ⟨by
 show some (bOk h a && decide (nOf a ≤ 70368744177664 ∧ 0 ≤ p ∧ p + 2 ≤ (nOf a : Int)), AV.int .i64 (zan (bOf h a) p.toNat), h) = _
 rw [g.1, g.2, hq, hw, decide_eq_true hn, List.append_nil]; rfl⟩
theorem zeb {h : zaa} {a : AV} {l : List UInt8} {k : Nat} (g : bOk h a = true ∧ bOf h a = l) (hn : nOf a ≤ 1000000000000) (hk : h.length = k) : Says zdB [a] h (slB k l) [zbo l] := ⟨by
 show some (bOk h a && decide (nOf a ≤ 1000000000000), slB h.length (bOf h a), h ++ [zbo (bOf h a)]) = _
 rw [g.1, g.2, hk, decide_eq_true hn]; rfl⟩
theorem zjv {h h' : zaa} {i n : Nat} {vs : List AV} {l : List UInt8} {p v : Int} (hb : h[i]? = some (.cells vs 1 .own none)) (hv : vs = bys l) (hn : n = l.length) (hl : l.length ≤ 1000000000000) (hp : 0 ≤ p ∧ p + 2 ≤ (l.length : Int)) (hx : 0 ≤ v ∧ v < 65536)
 (he : h.set i (zbo (zcz l p 2 v)) = h') : SaysH zeE [.sl (some (i, 0)) n 0 false, .int .i64 p, .int .u16 v] h (.bool true) h' := ⟨by
 subst hv hn he
 unfold zeE
 simp only [hb, Option.some.injEq, Prod.mk.injEq, AV.bool.injEq, decide_eq_true_eq, zba]
 refine ⟨zab.2 ⟨trivial, trivial, trivial, trivial, by simp, hl, by simp, hx.1, hx.2, by simp⟩, hp, rfl⟩⟩
theorem zrN {h : zaa} {o f t u : Int} (ho : 0 ≤ o ∧ o < 65536) (hf : 0 ≤ f ∧ f < 65536) (ht : 0 ≤ t ∧ t < 65536) (hu : zfJ o f t = u) : Says zfH [.int .u16 o, .int .u16 f, .int .u16 t] h (.int .u16 u) [] := ⟨by
 show some (decide ((0 ≤ o ∧ o < 65536) ∧ (0 ≤ f ∧ f < 65536) ∧ (0 ≤ t ∧ t < 65536)), AV.int .u16 (zfJ o f t), h) = _
 rw [hu, decide_eq_true ⟨ho, hf, ht⟩, List.append_nil]⟩
theorem zaT {h : zaa} {cs : List AV} {A : List UInt8} {k : Nat} (hw : zas cs = true) (hA : zag cs = A) (hk : h.length = k) : Says zbh [.agg cs] h (slB k A) [zbo A] := ⟨by
 show some (zas cs, slB h.length (zag cs), h ++ [zbo (zag cs)]) = _
 rw [hw, hA, hk]⟩
theorem zjc {h : zaa} {a b : AV} {A B : List UInt8} {o c : Int} (ga : bOk h a = true ∧ bOf h a = A) (gb : bOk h b = true ∧ bOf h b = B) (hn : nOf a ≤ 70368744177664 ∧ 0 ≤ o ∧ o < 65536) (hc : zaR o A B = c) : Says zfw [.int .u16 o, a, b] h (.int .u16 c) [] := ⟨by
 show some (bOk h a && bOk h b && decide (nOf a ≤ 70368744177664 ∧ 0 ≤ o ∧ o < 65536), AV.int .u16 (zaR o (bOf h a) (bOf h b)), h) = _
 rw [ga.1, ga.2, gb.1, gb.2, hc, decide_eq_true hn, List.append_nil]; rfl⟩
theorem zdE {h : zaa} {a : AV} {l : List UInt8} {s r : Int} (g : bOk h a = true ∧ bOf h a = l) (hn : nOf a ≤ 70368744177664 ∧ 0 ≤ s ∧ s < 4294967296) (hr : zfX l s = r) : Says zfd [a, .int .u32 s] h (.int .i64 r) [] := ⟨by
 show some (bOk h a && decide (nOf a ≤ 70368744177664 ∧ 0 ≤ s ∧ s < 4294967296), AV.int .i64 (zfX (bOf h a) s), h) = _
 rw [g.1, g.2, hr, decide_eq_true hn, List.append_nil]; rfl⟩
theorem zej {h : zaa} {a v : AV} {l : List UInt8} {p : Int} (g : bOk h a = true ∧ bOf h a = l) (hn : nOf a ≤ 1000000000000) (hr : zcb p l = v) : Says zgL [.int .u8 p, a] h v [] := ⟨by
 show some (bOk h a && decide (nOf a ≤ 1000000000000), zcb p (bOf h a), h) = _
 rw [g.1, g.2, hr, decide_eq_true hn, List.append_nil]; rfl⟩
theorem zc3 {h : zaa} {a v : AV} {l : List UInt8} {p : Int} (g : bOk h a = true ∧ bOf h a = l) (hn : nOf a ≤ 1000000000000) (hr : zbS p l = v) : Says zdI [.int .u8 p, a] h v [] := ⟨by
 show some (bOk h a && decide (nOf a ≤ 1000000000000), zbS p (bOf h a), h) = _
 rw [g.1, g.2, hr, decide_eq_true hn, List.append_nil]; rfl⟩

theorem zgd {m : List UInt8} {p : Nat} {v : Int} (h : p + 2 ≤ m.length) : zcz m p 2 v = (m.set p (u8i (v.fdiv 256))).set (p + 1) (u8i v) := by
 have e : zcz m p 2 v = zcf m p (ziA v 2) := by rw [zeH _ _ _ (by simp; omega), zcz, if_pos (by omega)]; simp
 rw [e, zc9]
 have q1 : v.fdiv 1 = v := by rw [Int.fdiv_eq_ediv_of_nonneg _ (by omega), Int.ediv_one]
 rw [q1]; rfl
theorem zwa {cs : List AV} {m : List UInt8} {p : Nat} {x y v : Int} (hc : cs = bys m) (h : p + 2 ≤ m.length) (hx : x = u8.wrap (v.fdiv 256)) (hy : y = u8.wrap v) : zae (zae cs p [.int .u8 x]) (p + 1) [.int .u8 y] = bys (zcz m p 2 v) := by
 subst hc hx hy
 rw [zgd h, ze0, ze0]

end Go.Proofs.Ytnchnjkakddhlaa.L

end
