/- The abstract interpreter: definitions; operation by operation it tells what the model does. -/
import Derived.RangeFuncCalls
import Derived.RangeFuncRecord
import Derived.Below
import Derived.KernelRfl
import Derived.Laws.StructEq
import Derived.Laws.IdiomCopy
import Derived.ChangeKeysEq
section
/- An abstract interpreter of the model's code: values whose block numbers are abstract ones, a heap of such blocks, and what each operation does to them. Definitions alone. -/
set_option autoImplicit false
namespace Go.Abs

inductive AV where
 | any
 | bool (b : Bool)
 | int (k : IntKind) (n : Int)
 | str (s : List UInt8)
 | ptr (a : Option (Nat × Nat))
 | sl (a : Option (Nat × Nat)) (len cap : Nat) (ex : Bool)
 | map (r : Option Nat)
 | fn (f : Fn) (cap : List AV)
 | nilFn
 | agg (l : List AV)
 | tup (l : List AV)
 deriving Inhabited

inductive AEx where
 | norm
 | exit (id : Nat)
 | ret
 deriving Inhabited, DecidableEq

inductive Md where
 | own | ro | far
 deriving Inhabited, DecidableEq

structure ALoop where
 st : LoopState
 pend : Option AEx
 env : List AV
 ps : List Tmp
 asg : Code
 body : Code
 deriving Inhabited

inductive ABlk where
 | cells (vs : List AV) (esz : Nat) (md : Md) (par : Option Nat)
 | mp (es : List (AV × AV × Nat)) (clk : Nat) (sy : Bool)
 | lp (l : ALoop)
 | dead
 deriving Inhabited

abbrev zaa := List ABlk
abbrev Env := List AV

mutual
def AV.beq : AV → AV → Bool
 | .any, .any => true
 | .bool a, .bool b => a == b
 | .int k a, .int k' b => decide (k = k') && decide (a = b)
 | .str a, .str b => decide (a = b)
 | .ptr a, .ptr b => decide (a = b)
 | .sl a l c e, .sl a' l' c' e' => decide (a = a') && decide (l = l') && decide (c = c') && (e == e')
 | .map a, .map b => decide (a = b)
 | .fn f l, .fn g m => decide (f = g) && AV.beqs l m
 | .nilFn, .nilFn => true
 | .agg l, .agg m => AV.beqs l m
 | .tup l, .tup m => AV.beqs l m
 | _, _ => false
def AV.beqs : List AV → List AV → Bool
 | [], [] => true
 | a :: l, b :: m => AV.beq a b && AV.beqs l m
 | _, _ => false
end

def AV.isCell : AV → Bool
 | .any | .agg _ | .tup _ => false
 | _ => true

def AV.cells : AV → Option (List AV)
 | .any | .tup _ => none
 | .agg l => some l
 | v => some [v]

def zwu : Value → AV
 | .bool b => .bool b
 | .int k n => .int k n
 | .string s => .str s.data.toList
 | .pointer none => .ptr none
 | .slice none 0 0 => .sl none 0 0 true
 | .map none => .map none
 | .func (.func f) first captured => if first.isEmpty && captured.isEmpty then .fn (.func f) [] else .any
 | .nilFunc => .nilFn
 | _ => .any

def ofV : Value → AV
 | .agg cs => .agg (cs.toList.map zwu)
 | .tuple vs => .tup (vs.toList.map zwu)
 | v => zwu v


def cellAt (h : zaa) (i o : Nat) : Option AV :=
 match h[i]? with
 | some (.cells vs _ _ _) => vs[o]?
 | _ => none

def cellsAt (h : zaa) (i o n : Nat) : Option (List AV) :=
 match h[i]? with
 | some (.cells vs _ _ _) => if o + n ≤ vs.length then some ((vs.drop o).take n) else none
 | _ => none

def zaI (k : IntKind) : Option AV → Bool
 | some (.int k' _) => decide (k' = k)
 | _ => false
def zad : Option AV → Int
 | some (.int _ n) => n
 | _ => 0
def zna : Option AV → Bool
 | some (.bool _) => true
 | _ => false
def zbZ : Option AV → Bool
 | some (.bool b) => b
 | _ => false

def zrJ : Option AV → Bool
 | some (.str _) => true
 | _ => false
def zBp : Option AV → List UInt8
 | some (.str s) => s
 | _ => []

def zpy (d : Option TypeDesc) (x : Option AV) : Option AV :=
 match d with
 | some (.int k) => if zaI k x = true then some (.int k (zad x)) else none
 | some .bool => if zna x = true then some (.bool (zbZ x)) else none
 | some .string => if zrJ x = true then some (.str (zBp x)) else none
 | _ => x

def zoH {R : Type} (d : Option TypeDesc) (x : Option AV) (K : AV → Option R) : Option R :=
 match d with
 | some (.int k) => if zaI k x = true then K (.int k (zad x)) else none
 | some .bool => if zna x = true then K (.bool (zbZ x)) else none
 | some .string => if zrJ x = true then K (.str (zBp x)) else none
 | _ => x.bind K

def zeh {R : Type} (h : zaa) (i o n : Nat) (K : List AV → Option R) : Option R :=
 match h[i]? with
 | some (.cells vs _ _ _) => if o + n ≤ vs.length then K ((vs.drop o).take n) else none
 | _ => none

def zae : List AV → Nat → List AV → List AV
 | vs, _, [] => vs
 | vs, o, x :: xs => zae (vs.set o x) (o + 1) xs

def zc4 (h : zaa) : Option Nat → zaa
 | none => h
 | some p => h.set p .dead

def putAt (h : zaa) (i o : Nat) (xs : List AV) : Option zaa :=
 match h[i]? with
 | some (.cells vs e .own par) =>
  if o + xs.length ≤ vs.length ∧ xs.all AV.isCell = true then some ((zc4 h par).set i (.cells (zae vs o xs) e .own none)) else none
 | _ => none

def zjq {R : Type} (h : zaa) (i o : Nat) (xs : List AV) (K : zaa → Option R) : Option R :=
 match h[i]? with
 | some (.cells vs e .own par) =>
  if o + xs.length ≤ vs.length ∧ xs.all AV.isCell = true then K ((zc4 h par).set i (.cells (zae vs o xs) e .own none)) else none
 | _ => none


def zbE (P : Program) (t : TypeId) : Option Nat := (P.info? t).map (·.size)
def zg2 (P : Program) (t : TypeId) : Option Nat := (P.info? t).map (·.bytes)
def ze7 (P : Program) (t : TypeId) : Option AV := ((P.info? t).bind (·.zero)).map ofV
def zsx (P : Program) (t : TypeId) : Option (List AV) := (ze7 P t).bind AV.cells
def zkk (P : Program) (t : TypeId) : Option Bool :=
 match P.underlying t with
 | some (.struct _) | some (.array _ _) => some true
 | some _ => some false
 | none => none
def zcJ (P : Program) (t : TypeId) : Option TypeId :=
 match P.underlying t with
 | some (.slice e) => some e
 | _ => none

def zex (n : Nat) (zc : List AV) : List AV := (List.replicate n zc).flatten


def ziV (P : Program) (h : zaa) (t : TypeId) : AV → Option AV
 | .ptr (some (i, o)) =>
  match zkk P t, zbE P t with
  | some true, some n => (cellsAt h i o n).map .agg
  | some false, _ => zpy (P.underlying t) (cellAt h i o)
  | _, _ => none
 | _ => none

def zod {R : Type} (P : Program) (h : zaa) (t : TypeId) (a : AV) (K : AV → Option R) : Option R :=
 match a with
 | .ptr (some (i, o)) =>
  match zkk P t, zbE P t with
  | some true, some n => zeh h i o n fun cs => K (.agg cs)
  | some false, _ => zoH (P.underlying t) (cellAt h i o) K
  | _, _ => none
 | _ => none

def zmH (P : Program) (h : zaa) (t : TypeId) (a v : AV) : Option zaa :=
 match a with
 | .ptr (some (i, o)) =>
  match v.cells, zbE P t with
  | some xs, some (n + 1) => if xs.length = n + 1 then putAt h i o xs else none
  | _, _ => none
 | _ => none

def zlS {R : Type} (P : Program) (h : zaa) (t : TypeId) (a v : AV) (K : zaa → Option R) : Option R :=
 match a with
 | .ptr (some (i, o)) =>
  match v.cells, zbE P t with
  | some xs, some (n + 1) => if xs.length = n + 1 then zjq h i o xs K else none
  | _, _ => none
 | _ => none

def zer (P : Program) (t : TypeId) (cs : List AV) (off : Nat) : Option AV :=
 match zkk P t, zbE P t with
 | some true, some n => if off + n ≤ cs.length then some (.agg ((cs.drop off).take n)) else none
 | some false, some _ => zpy (P.underlying t) cs[off]?
 | _, _ => none

def zic {R : Type} (P : Program) (t : TypeId) (cs : List AV) (off : Nat) (K : AV → Option R) : Option R :=
 match zkk P t, zbE P t with
 | some true, some n => if off + n ≤ cs.length then K (.agg ((cs.drop off).take n)) else none
 | some false, some _ => zoH (P.underlying t) cs[off]? K
 | _, _ => none

def zmD (P : Program) (xt : TypeId) (x : AV) (f : Nat) : Option AV :=
 match P.underlying xt, x with
 | some (.struct fs), .agg cs =>
  match fs[f]? with
  | some fd => zer P fd.type cs fd.offset
  | none => none
 | _, _ => none

def zly {R : Type} (P : Program) (xt : TypeId) (x : AV) (f : Nat) (K : AV → Option R) : Option R :=
 match P.underlying xt, x with
 | some (.struct fs), .agg cs =>
  match fs[f]? with
  | some fd => zic P fd.type cs fd.offset K
  | none => none
 | _, _ => none

def zeF (P : Program) (s : TypeId) (x : AV) (f : Nat) : Option AV :=
 match P.underlying s, x with
 | some (.struct fs), .ptr (some (i, o)) =>
  match fs[f]? with
  | some fd => match zbE P fd.type with
   | some (_ + 1) => some (.ptr (some (i, o + fd.offset)))
   | _ => none
  | none => none
 | _, _ => none

def zeB (P : Program) (t : TypeId) (x ix : AV) : Option AV :=
 match ix with
 | .int _ n =>
  match P.underlying t, x with
  | some (.array len e), .ptr (some (i, o)) =>
   match zbE P e with
   | some sz => if 0 ≤ n ∧ n < (len : Int) then some (.ptr (some (i, o + n.toNat * sz))) else none
   | none => none
  | some (.slice e), .sl (some (i, o)) len _ _ =>
   match zbE P e with
   | some sz => if 0 ≤ n ∧ n < (len : Int) then some (.ptr (some (i, o + n.toNat * sz))) else none
   | none => none
  | _, _ => none
 | _ => none

def zeV {R : Type} (P : Program) (t : TypeId) (x ix : AV) (K : AV → Option R) : Option R :=
 match ix with
 | .int _ n =>
  match P.underlying t, x with
  | some (.array len e), .ptr (some (i, o)) =>
   match zbE P e with
   | some sz => if 0 ≤ n ∧ n < (len : Int) then K (.ptr (some (i, o + n.toNat * sz))) else none
   | none => none
  | some (.slice e), .sl (some (i, o)) len _ _ =>
   match zbE P e with
   | some sz => if 0 ≤ n ∧ n < (len : Int) then K (.ptr (some (i, o + n.toNat * sz))) else none
   | none => none
  | _, _ => none
 | _ => none

def zmr (P : Program) (t : TypeId) (x ix : AV) : Option AV :=
 match ix with
 | .int _ n =>
  match P.underlying t, x with
  | some (.array len e), .agg cs =>
   match zbE P e with
   | some sz => if 0 ≤ n ∧ n < (len : Int) then zer P e cs (n.toNat * sz) else none
   | none => none
  | some .string, .str s => if 0 ≤ n ∧ n < (s.length : Int) then some (.int .u8 (s.getD n.toNat 0).toNat) else none
  | _, _ => none
 | _ => none

def zk5 {R : Type} (P : Program) (t : TypeId) (x ix : AV) (K : AV → Option R) : Option R :=
 match ix with
 | .int _ n =>
  match P.underlying t, x with
  | some (.array len e), .agg cs =>
   match zbE P e with
   | some sz => if 0 ≤ n ∧ n < (len : Int) then zic P e cs (n.toNat * sz) K else none
   | none => none
  | some .string, .str s => if 0 ≤ n ∧ n < (s.length : Int) then K (.int .u8 (s.getD n.toNat 0).toNat) else none
  | _, _ => none
 | _ => none

def zck : Option AV → Option (Option Int)
 | none => some none
 | some (.int _ n) => some (some n)
 | some _ => none

def zai (len r : Nat) (ex : Bool) : Nat := match ex with
 | true => r
 | false => len + r
def zac (len r a : Nat) (full : Bool) (b : Nat) (ex : Bool) : Nat := match ex, full with
 | true, _ => r - a
 | false, true => r
 | false, false => len + r - b

def ztJ (base : Option (Nat × Nat)) (len : Nat) (ex : Bool) : Bool := match base, ex with
 | none, _ => true
 | some _, true => true
 | some _, false => decide (0 < len)

def zcc (len cap : Nat) (lo hi : Option Int) : Option (Nat × Nat) :=
 match hi with
 | some b =>
  if 0 ≤ b ∧ b ≤ (cap : Int) then
   match lo with
   | some a => if 0 ≤ a ∧ a ≤ b then some (a.toNat, b.toNat) else none
   | none => some (0, b.toNat)
  else none
 | none =>
  match lo with
  | some a => if 0 ≤ a ∧ a ≤ (len : Int) then some (a.toNat, len) else none
  | none => some (0, len)

def zfY {R : Type} (len cap : Nat) (lo hi : Option Int) (K : Nat → Nat → Option R) : Option R :=
 match hi with
 | some b =>
  if 0 ≤ b ∧ b ≤ (cap : Int) then
   match lo with
   | some a => if 0 ≤ a ∧ a ≤ b then K a.toNat b.toNat else none
   | none => K 0 b.toNat
  else none
 | none =>
  match lo with
  | some a => if 0 ≤ a ∧ a ≤ (len : Int) then K a.toNat len else none
  | none => K 0 len

def zml (P : Program) (t : TypeId) (x : AV) (lo hi mx : Option AV) : Option AV :=
 match zck lo, zck hi, zck mx with
 | some l, some hh, some m =>
  match P.underlying t, x with
  | some .string, .str s =>
   match m with
   | none => (zcc s.length s.length l hh).map fun (a, b) => .str ((s.take b).drop a)
   | some _ => none
  | some (.slice e), .sl base len cap ex =>
   match zbE P e with
   | some sz =>
    match m, hh with
    | none, _ =>
     (zcc len (zai len cap ex) l hh).map fun (a, b) => .sl (base.map fun (i, o) => (i, o + a * sz)) (b - a) (zac len cap a hh.isNone b ex) ex
    | some c, some _ =>
     if 0 ≤ c ∧ c ≤ (zai len cap ex : Int) ∧ ztJ base len ex = true then
      (zcc len c.toNat l hh).map fun (a, b) => .sl (base.map fun (i, o) => (i, o + a * sz)) (b - a) (c.toNat - a) true
     else none
    | some _, none => none
   | none => none
  | some (.array n e), .ptr (some (i, o)) =>
   match zbE P e, m with
   | some sz, none =>
    (zcc n n l hh).map fun (a, b) => .sl (some (i, o + a * sz)) (b - a) (n - a) true
   | _, _ => none
  | _, _ => none
 | _, _, _ => none

def zlz {R : Type} (P : Program) (t : TypeId) (x : AV) (lo hi mx : Option AV) (K : AV → Option R) : Option R :=
 match zck lo, zck hi, zck mx with
 | some l, some hh, some m =>
  match P.underlying t, x with
  | some .string, .str s =>
   match m with
   | none => zfY s.length s.length l hh fun a b => K (.str ((s.take b).drop a))
   | some _ => none
  | some (.slice e), .sl base len cap ex =>
   match zbE P e with
   | some sz =>
    match m, hh with
    | none, _ =>
     zfY len (zai len cap ex) l hh fun a b => K (.sl (base.map fun (i, o) => (i, o + a * sz)) (b - a) (zac len cap a hh.isNone b ex) ex)
    | some c, some _ =>
     if 0 ≤ c ∧ c ≤ (zai len cap ex : Int) ∧ ztJ base len ex = true then
      zfY len c.toNat l hh fun a b => K (.sl (base.map fun (i, o) => (i, o + a * sz)) (b - a) (c.toNat - a) true)
     else none
    | some _, none => none
   | none => none
  | some (.array n e), .ptr (some (i, o)) =>
   match zbE P e, m with
   | some sz, none =>
    zfY n n l hh fun a b => K (.sl (some (i, o + a * sz)) (b - a) (n - a) true)
   | _, _ => none
  | _, _ => none
 | _, _, _ => none

def zgU (place : Nat → Option (Nat × Nat)) : List AV → List (Nat × AV) → Option (List AV)
 | cs, [] => some cs
 | cs, (i, v) :: r =>
  match place i, v.cells with
  | some (off, sz), some xs => if xs.length = sz ∧ off + sz ≤ cs.length then zgU place (zae cs off xs) r else none
  | _, _ => none

def zmh (P : Program) (t : TypeId) (parts : List (Nat × AV)) : Option AV :=
 match ze7 P t with
 | none => none
 | some z =>
  match z.cells, P.underlying t with
  | some zc, some (.struct fs) =>
   if (fs.toList.all fun f => (zbE P f.type).isSome) = true then (zgU (fun i => (fs[i]?).bind fun f => (zbE P f.type).map fun n => (f.offset, n)) zc parts).map .agg else none
  | some zc, some (.array _ e) =>
   match zbE P e with
   | some sz => (zgU (fun i => some (i * sz, sz)) zc parts).map .agg
   | none => none
  | _, _ => none

def zcp (P : Program) (h : zaa) (t : TypeId) (len : Nat) (parts : List (Nat × AV)) : Option (AV × zaa) :=
 match zcJ P t with
 | none => none
 | some e =>
  match zbE P e, ze7 P e with
  | some sz, some z =>
   match z.cells with
   | some zc =>
    if zc.length = sz ∧ 0 < sz ∧ len * sz ≤ 16777216 then
     (zgU (fun i => some (i * sz, sz)) (zex len zc) parts).map fun cs => (.sl (some (h.length, 0)) len 0 false, h ++ [.cells cs sz .own none])
    else none
   | none => none
  | _, _ => none

def zj8 {R : Type} (place : Nat → Option (Nat × Nat)) (K : List AV → Option R) : List AV → List (Nat × AV) → Option R
 | cs, [] => K cs
 | cs, (i, v) :: r =>
  match place i, v.cells with
  | some (off, sz), some xs => if xs.length = sz ∧ off + sz ≤ cs.length then zj8 place K (zae cs off xs) r else none
  | _, _ => none
def zlY {R : Type} (P : Program) (t : TypeId) (parts : List (Nat × AV)) (K : AV → Option R) : Option R :=
 match ze7 P t with
 | none => none
 | some z =>
  match z.cells, P.underlying t with
  | some zc, some (.struct fs) =>
   if (fs.toList.all fun f => (zbE P f.type).isSome) = true then zj8 (fun i => (fs[i]?).bind fun f => (zbE P f.type).map fun n => (f.offset, n)) (fun cs => K (.agg cs)) zc parts else none
  | some zc, some (.array _ e) =>
   match zbE P e with
   | some sz => zj8 (fun i => some (i * sz, sz)) (fun cs => K (.agg cs)) zc parts
   | none => none
  | _, _ => none
def zec {R : Type} (P : Program) (h : zaa) (t : TypeId) (len : Nat) (parts : List (Nat × AV)) (K : AV → zaa → Option R) : Option R :=
 match zcJ P t with
 | none => none
 | some e =>
  match zbE P e, ze7 P e with
  | some sz, some z =>
   match z.cells with
   | some zc =>
    if zc.length = sz ∧ 0 < sz ∧ len * sz ≤ 16777216 then
     zj8 (fun i => some (i * sz, sz)) (fun cs => K (.sl (some (h.length, 0)) len 0 false) (h ++ [.cells cs sz .own none])) (zex len zc) parts
    else none
   | none => none
  | _, _ => none

def zul (P : Program) (h : zaa) (t : TypeId) (v : AV) : Option (AV × zaa) :=
 match v.cells, zbE P t with
 | some xs, some n => some (.ptr (some (h.length, 0)), h ++ [.cells xs n .own none])
 | _, _ => none

def ziS (P : Program) (h : zaa) (t : TypeId) : Option (AV × zaa) :=
 match ze7 P t with
 | some z => zul P h t z
 | none => none

def zmq : Operand → Operand → Bool
 | .tmp a, .tmp b => a == b
 | .const (.int k a), .const (.int k' b) => decide (k = k') && decide (a = b)
 | _, _ => false

def zdP (P : Program) (h : zaa) (t : TypeId) (l c : AV) (same : Bool) : Option (AV × zaa) :=
 match zcJ P t, l, c with
 | some e, .int _ l, .int _ c =>
  match zbE P e, zg2 P e, ze7 P e with
  | some sz, some by_, some z =>
   match z.cells with
   | some zc =>
    if zc.length = sz ∧ 0 < sz ∧ 0 ≤ l ∧ l ≤ c ∧ c ≤ 70368744177664 ∧ (by_ : Int) * c ≤ 281474976710656 then
     some (.sl (some (h.length, 0)) l.toNat (match same with | true => 0 | false => c.toNat) (!same), h ++ [.cells (zex c.toNat zc) sz .own none])
    else none
   | none => none
  | _, _, _ => none
 | _, _, _ => none

def ze5 {R : Type} (P : Program) (h : zaa) (t : TypeId) (l c : AV) (same : Bool) (K : AV → zaa → Option R) : Option R :=
 match zcJ P t, l, c with
 | some e, .int _ l, .int _ c =>
  match zbE P e, zg2 P e, ze7 P e with
  | some sz, some by_, some z =>
   match z.cells with
   | some zc =>
    if zc.length = sz ∧ 0 < sz ∧ 0 ≤ l ∧ l ≤ c ∧ c ≤ 70368744177664 ∧ (by_ : Int) * c ≤ 281474976710656 then
     K (.sl (some (h.length, 0)) l.toNat (match same with | true => 0 | false => c.toNat) (!same)) (h ++ [.cells (zex c.toNat zc) sz .own none])
    else none
   | none => none
  | _, _, _ => none
 | _, _, _ => none

def zjD (P : Program) : Option TypeId → Option Bool
 | some t => match P.underlying t with
  | some (.int _) => some true
  | some _ => some false
  | none => none
 | none => some false

def zzU (P : Program) (h : zaa) (e : TypeId) (sz by_ : Nat) (xt : Option TypeId) (x : AV) : Option (Nat × List AV) :=
 match zjD P xt, x with
 | some true, .int _ l =>
  match ze7 P e with
  | some z => match z.cells with
   | some zc => if zc.length = sz ∧ 0 ≤ l ∧ l ≤ 70368744177664 ∧ l * (by_ : Int) ≤ 281474976710656 then some (l.toNat, zex l.toNat zc) else none
   | none => none
  | none => none
 | some false, .sl none n _ _ => if n = 0 then some (0, []) else none
 | some false, .sl (some (i, o)) n _ _ => (cellsAt h i o (n * sz)).map fun cs => (n, cs)
 | some false, .str s => if sz = 1 then some (s.length, s.map fun b => .int .u8 b.toNat) else none
 | _, _ => none

def zxC {R : Type} (P : Program) (h : zaa) (e : TypeId) (sz by_ : Nat) (xt : Option TypeId) (x : AV) (K : Nat → List AV → Option R) : Option R :=
 match zjD P xt, x with
 | some true, .int _ l =>
  match ze7 P e with
  | some z => match z.cells with
   | some zc => if zc.length = sz ∧ 0 ≤ l ∧ l ≤ 70368744177664 ∧ l * (by_ : Int) ≤ 281474976710656 then K l.toNat (zex l.toNat zc) else none
   | none => none
  | none => none
 | some false, .sl none n _ _ => if n = 0 then K 0 [] else none
 | some false, .sl (some (i, o)) n _ _ => zeh h i o (n * sz) fun cs => K n cs
 | some false, .str s => if sz = 1 then K s.length (s.map fun b => .int .u8 b.toNat) else none
 | _, _ => none

def zkj {R : Type} (h : zaa) (i o len cap sz n : Nat) (new old : List AV) (K : AV → zaa → Option R) : Option R :=
 match h[i]? with
 | some (.cells vs e' .own par) =>
  if cap = 0 ∧ o + len * sz = vs.length ∧ (0 < n ∨ o = 0) ∧ e' = sz ∧ new.all AV.isCell = true then
   K (.sl (some (h.length, 0)) (len + n) 0 false) ((zc4 h par).set i (.cells vs e' .ro none) ++ [.cells (old ++ new) sz .own (some i)])
  else none
 | _ => none

def ziy {R : Type} (P : Program) (h : zaa) (argTypes : List TypeId) (s x : AV) (K : AV → zaa → Option R) : Option R :=
 match (argTypes[0]?).bind (zcJ P), s with
 | some e, .sl base len cap ex =>
  match zbE P e, zg2 P e with
  | some (sz' + 1), some by_ =>
   zxC P h e (sz' + 1) by_ (argTypes[1]?) x fun n new =>
    if (2 * (len + n) + 200) * by_ ≤ 281474976710656 ∧ (zsx P e).map List.length = some (sz' + 1) ∧ len + n ≤ 70368744177664 then
     match base with
     | none => if len = 0 ∧ zai len cap ex = 0 then K (.sl (some (h.length, 0)) n 0 false) (h ++ [.cells new (sz' + 1) .own none]) else none
     | some (i, o) =>
      match ex with
      | true =>
       if cap = 0 then (if len = 0 then K (.sl (some (h.length, 0)) n 0 false) (h ++ [.cells new (sz' + 1) .own none]) else none)
       else if len + n ≤ cap then
        (if n = 0 then K (.sl (some (i, o)) (len + n) cap true) h else zjq h i (o + len * (sz' + 1)) new fun h' => K (.sl (some (i, o)) (len + n) cap true) h')
       else zeh h i o (len * (sz' + 1)) fun old => K (.sl (some (h.length, 0)) (len + n) 0 false) (h ++ [.cells (old ++ new) (sz' + 1) .own none])
      | false =>
       if cap = 0 then zeh h i o (len * (sz' + 1)) fun old => zkj h i o len cap (sz' + 1) n new old K
       else if n ≤ cap then
        (if n = 0 then K (.sl (some (i, o)) (len + n) cap false) h else zjq h i (o + len * (sz' + 1)) new fun h' => K (.sl (some (i, o)) (len + n) (cap - n) false) h')
       else none
    else none
  | _, _ => none
 | _, _ => none

def zhK (P : Program) (h : zaa) (argTypes : List TypeId) (s x : AV) : Option (AV × zaa) :=
 match (argTypes[0]?).bind (zcJ P), s with
 | some e, .sl base len cap ex =>
  match zbE P e, zg2 P e with
  | some (sz' + 1), some by_ =>
   (zzU P h e (sz' + 1) by_ (argTypes[1]?) x).bind fun (n, new) =>
    if (2 * (len + n) + 200) * by_ ≤ 281474976710656 ∧ (zsx P e).map List.length = some (sz' + 1) ∧ len + n ≤ 70368744177664 then
     match base with
     | none => if len = 0 ∧ zai len cap ex = 0 then some (.sl (some (h.length, 0)) n 0 false, h ++ [.cells new (sz' + 1) .own none]) else none
     | some (i, o) =>
      match ex with
      | true =>
       if cap = 0 then (if len = 0 then some (.sl (some (h.length, 0)) n 0 false, h ++ [.cells new (sz' + 1) .own none]) else none)
       else if len + n ≤ cap then
        (if n = 0 then some (.sl (some (i, o)) (len + n) cap true, h) else (putAt h i (o + len * (sz' + 1)) new).map fun h' => (.sl (some (i, o)) (len + n) cap true, h'))
       else (cellsAt h i o (len * (sz' + 1))).map fun old => (.sl (some (h.length, 0)) (len + n) 0 false, h ++ [.cells (old ++ new) (sz' + 1) .own none])
      | false =>
       if cap = 0 then (cellsAt h i o (len * (sz' + 1))).bind fun old => zkj h i o len cap (sz' + 1) n new old fun v h => some (v, h)
       else if n ≤ cap then
        (if n = 0 then some (.sl (some (i, o)) (len + n) cap false, h) else (putAt h i (o + len * (sz' + 1)) new).map fun h' => (.sl (some (i, o)) (len + n) (cap - n) false, h'))
       else none
    else none
  | _, _ => none
 | _, _ => none

def zfx (h : zaa) (base : Option (Nat × Nat)) (dl sl : Nat) (cs : List AV) : Option (AV × zaa) :=
 if cs.length = 0 then some (.int .i64 (Nat.min sl dl), h) else
 match base with
 | some (i, o) => if 0 < dl then (putAt h i o cs).map fun h' => (.int .i64 (Nat.min sl dl), h') else none
 | none => none

def zgj {R : Type} (h : zaa) (base : Option (Nat × Nat)) (dl sl : Nat) (cs : List AV) (K : AV → zaa → Option R) : Option R :=
 if cs.length = 0 then K (.int .i64 (Nat.min sl dl)) h else
 match base with
 | some (i, o) => if 0 < dl then zjq h i o cs fun h' => K (.int .i64 (Nat.min sl dl)) h' else none
 | none => none

def zqy (P : Program) (h : zaa) (argTypes : List TypeId) (dst src : AV) : Option (AV × zaa) :=
 match (argTypes[0]?).bind (zcJ P), dst with
 | some e, .sl base dl _ _ =>
  match zbE P e with
  | some sz =>
   match src with
   | .sl none n _ _ => if n = 0 then zfx h base dl 0 [] else none
   | .sl (some (i, o)) n _ _ => if n = 0 then zfx h base dl 0 [] else (cellsAt h i o (Nat.min n dl * sz)).bind fun cs => zfx h base dl n cs
   | .str s => if sz = 1 then zfx h base dl s.length ((s.take (Nat.min s.length dl)).map fun b => .int .u8 b.toNat) else none
   | _ => none
  | none => none
 | _, _ => none

def zoG {R : Type} (P : Program) (h : zaa) (argTypes : List TypeId) (dst src : AV) (K : AV → zaa → Option R) : Option R :=
 match (argTypes[0]?).bind (zcJ P), dst with
 | some e, .sl base dl _ _ =>
  match zbE P e with
  | some sz =>
   match src with
   | .sl none n _ _ => if n = 0 then zgj h base dl 0 [] K else none
   | .sl (some (i, o)) n _ _ => if n = 0 then zgj h base dl 0 [] K else zeh h i o (Nat.min n dl * sz) fun cs => zgj h base dl n cs K
   | .str s => if sz = 1 then zgj h base dl s.length ((s.take (Nat.min s.length dl)).map fun b => .int .u8 b.toNat) K else none
   | _ => none
  | none => none
 | _, _ => none

def zuj (P : Program) (h : zaa) (t : TypeId) (x : AV) : Option AV :=
 match P.underlying t, x with
 | some .string, .str s => some (.int .i64 s.length)
 | some (.array n _), _ => some (.int .i64 n)
 | some (.slice _), .sl _ n _ _ => some (.int .i64 n)
 | some (.map _ _), .map none => some (.int .i64 0)
 | some (.map _ _), .map (some r) =>
  match h[r]? with
  | some (.mp es _ _) => some (.int .i64 es.length)
  | _ => none
 | _, _ => none

def zyO (P : Program) (t : TypeId) (x : AV) : Option AV :=
 match P.underlying t, x with
 | some (.array n _), _ => some (.int .i64 n)
 | some (.slice _), .sl none _ c _ => some (.int .i64 c)
 | some (.slice _), .sl (some _) _ c true => some (.int .i64 c)
 | _, _ => none

def zkw (P : Program) (h : zaa) (t : TypeId) (x : AV) : Option zaa :=
 match P.underlying t, x with
 | some (.slice _), .sl none _ _ _ => some h
 | some (.slice e), .sl (some (i, o)) n _ _ =>
  if n = 0 then some h else
  match zbE P e, ze7 P e with
  | some sz, some z => match z.cells with
   | some zc => if zc.length = sz ∧ 0 < sz then putAt h i o (zex n zc) else none
   | none => none
  | _, _ => none
 | _, _ => none

def zlW {R : Type} (P : Program) (h : zaa) (t : TypeId) (x : AV) (K : zaa → Option R) : Option R :=
 match P.underlying t, x with
 | some (.slice _), .sl none _ _ _ => K h
 | some (.slice e), .sl (some (i, o)) n _ _ =>
  if n = 0 then K h else
  match zbE P e, ze7 P e with
  | some sz, some z => match z.cells with
   | some zc => if zc.length = sz ∧ 0 < sz then zjq h i o (zex n zc) K else none
   | none => none
  | _, _ => none
 | _, _ => none


def zaU (k : IntKind) (f : BitVec k.bits → BitVec k.bits → BitVec k.bits) (a b : Int) : Int :=
 k.wrap (f (BitVec.ofInt k.bits a) (BitVec.ofInt k.bits b)).toNat

def znJ (op : BinOp) (k : IntKind) (a b : Int) : Option AV :=
 match op with
 | .add => some (.int k (k.wrap (a + b)))
 | .sub => some (.int k (k.wrap (a - b)))
 | .mul => some (.int k (k.wrap (a * b)))
 | .quo => if b = 0 then none else some (.int k (k.wrap (a.tdiv b)))
 | .rem => if b = 0 then none else some (.int k (a.tmod b))
 | .and => some (.int k (zaU k (· &&& ·) a b))
 | .or => some (.int k (zaU k (· ||| ·) a b))
 | .xor => some (.int k (zaU k (· ^^^ ·) a b))
 | .andNot => some (.int k (zaU k (fun x y => x &&& ~~~y) a b))
 | .eql => some (.bool (a == b))
 | .neq => some (.bool (a != b))
 | .lss => some (.bool (a < b))
 | .leq => some (.bool (a ≤ b))
 | .gtr => some (.bool (a > b))
 | .geq => some (.bool (a ≥ b))
 | _ => none

def zdv (P : Program) (eq : TypeId → AV → AV → Option Bool) (xs ys : List AV) : List Field → Option Bool
 | [] => some true
 | f :: fs =>
  if f.name = "_" then zdv P eq xs ys fs else
  (zer P f.type xs f.offset).bind fun a => (zer P f.type ys f.offset).bind fun b =>
   (eq f.type a b).bind fun r => (zdv P eq xs ys fs).map fun s => r && s

def zfk (P : Program) (eq : TypeId → AV → AV → Option Bool) (e : TypeId) (sz : Nat) (xs ys : List AV) : Nat → Nat → Option Bool
 | 0, _ => some true
 | n + 1, i =>
  (zer P e xs (i * sz)).bind fun a => (zer P e ys (i * sz)).bind fun b =>
   (eq e a b).bind fun r => (zfk P eq e sz xs ys n (i + 1)).map fun s => r && s

def zdz (P : Program) : Nat → TypeId → AV → AV → Option Bool
 | 0, _, _, _ => none
 | d + 1, t, x, y =>
  match P.underlying t, x, y with
  | some .bool, .bool a, .bool b => some (a == b)
  | some (.int _), .int k a, .int k' b => if k = k' then some (a == b) else none
  | some .string, .str a, .str b => some (decide (a = b))
  | some (.pointer _), .ptr none, .ptr b => some b.isNone
  | some (.pointer _), .ptr (some _), .ptr none => some false
  | some (.slice _), .sl none _ _ _, .sl none _ _ _ => some true
  | some (.slice _), .sl none _ _ _, .sl (some _) l _ ex => match ex with | true => some false | false => if 0 < l then some false else none
  | some (.slice _), .sl (some _) l _ ex, .sl none _ _ _ => match ex with | true => some false | false => if 0 < l then some false else none
  | some (.map _ _), .map none, .map b => some b.isNone
  | some (.map _ _), .map (some _), .map none => some false
  | some (.func _ _ _), .nilFn, .nilFn => some true
  | some (.func _ _ _), .nilFn, .fn _ _ => some false
  | some (.func _ _ _), .fn _ _, .nilFn => some false
  | some (.struct fs), .agg xs, .agg ys => if P.stoodInHeld t = true then none else zdv P (zdz P d) xs ys fs.toList
  | some (.array n e), .agg xs, .agg ys =>
   match zbE P e with
   | some sz => zfk P (zdz P d) e sz xs ys n 0
   | none => none
  | _, _, _ => none

def zqF (P : Program) (op : BinOp) (xt : TypeId) (x y : AV) : Option AV :=
 match x, y with
 | .int k a, .int k' b =>
  match op with
  | .shl => if b < 0 then none else some (.int k (k.wrap (a * 2 ^ (min b.toNat k.bits))))
  | .shr => if b < 0 then none else some (.int k (a.fdiv (2 ^ (min b.toNat k.bits))))
  | _ => if k = k' then znJ op k a b else none
 | .str a, .str b =>
  match op with
  | .add => if a.length + b.length ≤ 140737488355328 then some (.str (a ++ b)) else none
  | .eql => some (.bool (decide (a = b)))
  | .neq => some (.bool (!decide (a = b)))
  | _ => none
 | .agg a, .agg b =>
  if P.eqGuardType P.depth xt = true then none else
  match op with
  | .eql => (zdz P 10000 xt (.agg a) (.agg b)).map .bool
  | .neq => (zdz P 10000 xt (.agg a) (.agg b)).map fun r => .bool (!r)
  | _ => none
 | x, y =>
  match op with
  | .eql => (zdz P 10000 xt x y).map .bool
  | .neq => (zdz P 10000 xt x y).map fun r => .bool (!r)
  | _ => none

def zsG {R : Type} (op : BinOp) (k : IntKind) (a b : Int) (K : AV → Option R) : Option R :=
 match op with
 | .quo => if b = 0 then none else K (.int k (k.wrap (a.tdiv b)))
 | .rem => if b = 0 then none else K (.int k (a.tmod b))
 | op => (znJ op k a b).bind K

def zeC {R : Type} (P : Program) (eq : TypeId → AV → AV → (Bool → Option R) → Option R) (xs ys : List AV) : List Field → (Bool → Option R) → Option R
 | [], K => K true
 | f :: fs, K =>
  if f.name = "_" then zeC P eq xs ys fs K else
  zic P f.type xs f.offset fun a => zic P f.type ys f.offset fun b => eq f.type a b fun r => zeC P eq xs ys fs fun s => K (r && s)
def zgW {R : Type} (P : Program) (eq : TypeId → AV → AV → (Bool → Option R) → Option R) (e : TypeId) (sz : Nat) (xs ys : List AV) : Nat → Nat → (Bool → Option R) → Option R
 | 0, _, K => K true
 | n + 1, i, K => zic P e xs (i * sz) fun a => zic P e ys (i * sz) fun b => eq e a b fun r => zgW P eq e sz xs ys n (i + 1) fun s => K (r && s)
def zkP {R : Type} (P : Program) : Nat → TypeId → AV → AV → (Bool → Option R) → Option R
 | 0, _, _, _, _ => none
 | d + 1, t, x, y, K =>
  match P.underlying t with
  | some (.struct fs) =>
   match x, y with
   | .agg xs, .agg ys => if P.stoodInHeld t = true then none else zeC P (zkP P d) xs ys fs.toList K
   | _, _ => none
  | some (.array n e) =>
   match x, y with
   | .agg xs, .agg ys =>
    match zbE P e with
    | some sz => zgW P (zkP P d) e sz xs ys n 0 K
    | none => none
   | _, _ => none
  | _ => (zdz P (d + 1) t x y).bind K

def zvA {R : Type} (P : Program) (op : BinOp) (xt : TypeId) (x y : AV) (K : AV → Option R) : Option R :=
 match x, y with
 | .int k a, .int k' b =>
  match op with
  | .shl => if b < 0 then none else K (.int k (k.wrap (a * 2 ^ (min b.toNat k.bits))))
  | .shr => if b < 0 then none else K (.int k (a.fdiv (2 ^ (min b.toNat k.bits))))
  | op => if k = k' then zsG op k a b K else none
 | .str a, .str b =>
  match op with
  | .add => if a.length + b.length ≤ 140737488355328 then K (.str (a ++ b)) else none
  | op => (zqF P op xt (.str a) (.str b)).bind K
 | .agg a, .agg b =>
  if P.eqGuardType P.depth xt = true then none else
  match op with
  | .eql => zkP P 10000 xt (.agg a) (.agg b) fun r => K (.bool r)
  | .neq => zkP P 10000 xt (.agg a) (.agg b) fun r => K (.bool (!r))
  | _ => none
 | x, y => (zqF P op xt x y).bind K

def aun (op : UnOp) (x : AV) : Option AV :=
 match op, x with
 | .neg, .int k n => some (.int k (k.wrap (0 - n)))
 | .xor, .int k n => some (.int k (zaU k (· ^^^ ·) (if k.signed then -1 else k.max) n))
 | .not, .bool b => some (.bool !b)
 | _, _ => none

def ziR : AV → Bool
 | .int .u8 _ => true
 | _ => false
def zaA : AV → UInt8
 | .int _ n => UInt8.ofNat n.toNat
 | _ => 0

def zld (P : Program) (h : zaa) (src dst : TypeId) (x : AV) : Option (AV × zaa) :=
 match P.underlying src, P.underlying dst, x with
 | some (.int _), some (.int k), .int _ n => some (.int k (k.wrap n), h)
 | some .string, some .string, .str s => some (.str s, h)
 | some .string, some (.slice e), .str s =>
  match P.underlying e with
  | some (.int .u8) => if 0 < s.length then some (.sl (some (h.length, 0)) s.length 0 false, h ++ [.cells (s.map fun b => .int .u8 b.toNat) 1 .own none]) else none
  | _ => none
 | some (.slice _), some (.slice e), .sl (some (i, o)) n c ex =>
  match P.underlying e, h[i]? with
  | some (.int .u8), some (.cells vs esz .own none) => if src = dst ∧ 0 < n ∧ 0 < vs.length then some (.sl (some (i, o)) n c ex, h.set i (.cells vs esz .ro none)) else none
  | _, _ => none
 | some (.slice e), some .string, .sl base n _ _ =>
  match P.underlying e, base with
  | some (.int .u8), none => if n = 0 then some (.str [], h) else none
  | some (.int .u8), some (i, o) => (cellsAt h i o n).bind fun cs => if cs.all ziR = true then some (.str (cs.map zaA), h) else none
  | _, _ => none
 | _, _, _ => none

def zov {R : Type} (P : Program) (h : zaa) (src dst : TypeId) (x : AV) (K : AV → zaa → Option R) : Option R :=
 match P.underlying src, P.underlying dst, x with
 | some (.int _), some (.int k), .int _ n => K (.int k (k.wrap n)) h
 | some .string, some .string, .str s => K (.str s) h
 | some .string, some (.slice e), .str s =>
  match P.underlying e with
  | some (.int .u8) => if 0 < s.length then K (.sl (some (h.length, 0)) s.length 0 false) (h ++ [.cells (s.map fun b => .int .u8 b.toNat) 1 .own none]) else none
  | _ => none
 | some (.slice _), some (.slice e), .sl (some (i, o)) n c ex =>
  match P.underlying e, h[i]? with
  | some (.int .u8), some (.cells vs esz .own none) => if src = dst ∧ 0 < n ∧ 0 < vs.length then K (.sl (some (i, o)) n c ex) (h.set i (.cells vs esz .ro none)) else none
  | _, _ => none
 | some (.slice e), some .string, .sl base n _ _ =>
  match P.underlying e, base with
  | some (.int .u8), none => if n = 0 then K (.str []) h else none
  | some (.int .u8), some (i, o) => zeh h i o n fun cs => if cs.all ziR = true then K (.str (cs.map zaA)) h else none
  | _, _ => none
 | _, _, _ => none


def zcM (P : Program) (t : TypeId) : Option (TypeId × TypeId) :=
 match P.underlying t with
 | some (.map k e) => some (k, e)
 | _ => none

def zdH (P : Program) : Nat → TypeId → AV → Bool
 | 0, _, _ => false
 | d + 1, t, v =>
  match P.underlying t, v with
  | some .bool, .bool _ => true
  | some (.int _), .int _ _ => true
  | some .string, .str _ => true
  | some (.array len e), .agg cs =>
   match zbE P e with
   | some sz => (List.range len).all fun i => match zer P e cs (i * sz) with | some x => zdH P d e x | none => false
   | none => false
  | some (.struct fs), .agg cs => fs.toList.all fun f => match zer P f.type cs f.offset with | some x => zdH P d f.type x | none => false
  | _, _ => false

def zhS (P : Program) (kt : TypeId) (k : AV) : List (AV × AV × Nat) → Nat → Option (Option (Nat × AV))
 | [], _ => some none
 | e :: r, i => (zdz P 10000 kt k e.1).bind fun b => if b = true then some (some (i, e.2.1)) else zhS P kt k r (i + 1)

def zkF {R : Type} (P : Program) (kt : TypeId) (k : AV) (K : Option (Nat × AV) → Option R) : List (AV × AV × Nat) → Nat → Option R
 | [], _ => K none
 | e :: r, i => (zdz P 10000 kt k e.1).bind fun b => if b = true then K (some (i, e.2.1)) else zkF P kt k K r (i + 1)

def zbX (h : zaa) (r : Nat) : Option (List (AV × AV × Nat) × Nat) :=
 match h[r]? with
 | some (.mp es c _) => some (es, c)
 | _ => none

def zgB (h : zaa) : AV → Option (List (AV × AV × Nat))
 | .map none => some []
 | .map (some r) => (zbX h r).map fun x => x.1
 | _ => none

def zb4 (P : Program) (h : zaa) (t : TypeId) (m k : AV) (ok : Bool) : Option AV :=
 match zcM P t with
 | none => none
 | some (kt, et) =>
  (zgB h m).bind fun es =>
  if zdH P 10000 kt k = true then
   (zhS P kt k es 0).bind fun
    | some (_, v) => some (if ok then .tup [v, .bool true] else v)
    | none => (ze7 P et).map fun z => if ok then .tup [z, .bool false] else z
  else none

def zjA {R : Type} (P : Program) (h : zaa) (t : TypeId) (m k : AV) (ok : Bool) (K : AV → Option R) : Option R :=
 match zcM P t with
 | none => none
 | some (kt, et) =>
  (zgB h m).bind fun es =>
  if zdH P 10000 kt k = true then
   zkF P kt k (fun
    | some (_, v) => K (if ok then .tup [v, .bool true] else v)
    | none => (ze7 P et).bind fun z => K (if ok then .tup [z, .bool false] else z)) es 0
  else none

def AV.plain : AV → Bool
 | .bool _ => true
 | .int _ _ => true
 | .str _ => true
 | _ => false
def AV.flat : AV → Bool
 | .agg l => l.all AV.plain
 | v => v.plain

def zkA (P : Program) (h : zaa) (t : TypeId) (r : Nat) (k : AV) (old : AV → AV) (new : Option AV) : Option (AV × Nat × zaa) :=
 match zcM P t, zbX h r with
 | some (kt, _), some (es, c) =>
  if zdH P 10000 kt k = true then
   (zhS P kt k es 0).bind fun
    | some (i, v) =>
     match es[i]? with
     | some e => if AV.beq e.1 k = true ∧ k.flat = true then some (v, e.2.2, h.set r (.mp (es.set i (k, old e.2.1, e.2.2)) c false)) else none
     | none => none
    | none => new.map fun z => (z, c, h.set r (.mp (es ++ [(k, z, c)]) (c + 1) false))
  else none
 | _, _ => none

def zle {R : Type} (P : Program) (h : zaa) (t : TypeId) (r : Nat) (k : AV) (old : AV → AV) (new : Option AV) (K : AV → Nat → zaa → Option R) : Option R :=
 match zcM P t, zbX h r with
 | some (kt, _), some (es, c) =>
  if zdH P 10000 kt k = true then
   zkF P kt k (fun
    | some (i, v) =>
     match es[i]? with
     | some e => if AV.beq e.1 k = true ∧ k.flat = true then K v e.2.2 (h.set r (.mp (es.set i (k, old e.2.1, e.2.2)) c false)) else none
     | none => none
    | none => new.bind fun z => K z c (h.set r (.mp (es ++ [(k, z, c)]) (c + 1) false))) es 0
  else none
 | _, _ => none

def zcP (P : Program) (h : zaa) (t : TypeId) (m k v : AV) : Option zaa :=
 match m with
 | .map (some r) => (zkA P h t r k (fun _ => v) (some v)).map fun x => x.2.2
 | _ => none

def zbO (P : Program) (h : zaa) (t : TypeId) (m k : AV) : Option (AV × zaa) :=
 match m with
 | .map (some r) => (zkA P h t r k id ((zcM P t).bind fun x => ze7 P x.2)).map fun x => (.tup [x.1, .int .i64 x.2.1], x.2.2)
 | _ => none

def zcW (h : zaa) (m st v : AV) : Option zaa :=
 match m, st with
 | .map (some r), .int _ b =>
  match zbX h r with
  | some (es, c) =>
   (es.findIdx? fun e => ((e.2.2 : Int) == b)).bind fun i => (es[i]?).map fun e => h.set r (.mp (es.set i (e.1, v, e.2.2)) c false)
  | none => none
 | _, _ => none

def zfj (P : Program) (h : zaa) (t : TypeId) (m k : AV) : Option zaa :=
 match zcM P t with
 | none => none
 | some (kt, _) =>
  if zdH P 10000 kt k = true then
   match m with
   | .map none => some h
   | .map (some r) =>
    match zbX h r with
    | some (es, c) =>
     (zhS P kt k es 0).map fun
      | some (i, _) => h.set r (.mp (es.eraseIdx i) c false)
      | none => h.set r (.mp es c false)
    | none => none
   | _ => none
  else none

def zfT {R : Type} (P : Program) (h : zaa) (t : TypeId) (m k v : AV) (K : zaa → Option R) : Option R :=
 match m with
 | .map (some r) => zle P h t r k (fun _ => v) (some v) fun _ _ h' => K h'
 | _ => none

def zgJ {R : Type} (P : Program) (h : zaa) (t : TypeId) (m k : AV) (K : AV → zaa → Option R) : Option R :=
 match m with
 | .map (some r) => zle P h t r k id ((zcM P t).bind fun x => ze7 P x.2) fun v b h' => K (.tup [v, .int .i64 b]) h'
 | _ => none

def zjx {R : Type} (P : Program) (h : zaa) (t : TypeId) (m k : AV) (K : zaa → Option R) : Option R :=
 match zcM P t with
 | none => none
 | some (kt, _) =>
  if zdH P 10000 kt k = true then
   match m with
   | .map none => K h
   | .map (some r) =>
    match zbX h r with
    | some (es, c) =>
     zkF P kt k (fun
      | some (i, _) => K (h.set r (.mp (es.eraseIdx i) c false))
      | none => K (h.set r (.mp es c false))) es 0
    | none => none
   | _ => none
  else none


noncomputable def zaE (p : Prop) : Bool := @decide p (Classical.propDecidable p)
theorem zab {p : Prop} : zaE p = true ↔ p := by simp [zaE]
noncomputable def opq {α : Type} (a : α) : α := Classical.choose (p := fun z => z = a) ⟨a, rfl⟩
theorem zjr {α : Type} (a : α) : opq a = a := Classical.choose_spec (p := fun z => z = a) ⟨a, rfl⟩
def zgn (h : zaa) : AV → Bool
 | .map (some r) => match h[r]? with
  | some (.mp _ _ s) => s
  | _ => false
 | _ => false
def zBH : Option AV → Option AV
 | some (.tup (a :: _)) => some a
 | _ => none
def zBK : Option AV → Option AV
 | some (.tup (_ :: b :: _)) => some b
 | _ => none
noncomputable def zAZ (P : Program) (t : TypeId) (x : Option AV) : Option AV :=
 match zcM P t with
 | some (_, et) => match P.underlying et with
  | some (.int k) => some (.int k (opq (zad x)))
  | some .bool => some (.bool (opq (zbZ x)))
  | _ => none
 | none => none
def zAM (r : Nat) (x : Option zaa) : List (AV × AV × Nat) := match x with
 | some h => match h[r]? with
  | some (.mp es _ _) => es
  | _ => []
 | none => []
def zAL (r : Nat) (x : Option zaa) : Nat := match x with
 | some h => match h[r]? with
  | some (.mp _ c _) => c
  | _ => 0
 | none => 0
noncomputable def zks (h : zaa) (r : Nat) (x : Option zaa) (s : Bool) : zaa := h.set r (.mp (opq (zAM r x)) (opq (zAL r x)) s)
noncomputable def zyk (P : Program) (h : zaa) (t : TypeId) (m k : AV) (ok : Bool) : Option AV :=
 match ok with
 | true => (zAZ P t (zBH (zb4 P h t m k true))).map fun v => .tup [v, .bool (opq (zbZ (zBK (zb4 P h t m k true))))]
 | false => zAZ P t (zb4 P h t m k false)
noncomputable def zeW (P : Program) (h : zaa) (t : TypeId) (m k : AV) (ok : Bool) : Option AV :=
 if zgn h m = true then (zyk P h t m k ok).bind fun v => if zaE (zb4 P h t m k ok = some v) = true then some v else none
 else zb4 P h t m k ok
noncomputable def zio {R : Type} (P : Program) (h : zaa) (t : TypeId) (m k : AV) (ok : Bool) (K : AV → Option R) : Option R :=
 if zgn h m = true then (zyk P h t m k ok).bind fun v => if zaE (zb4 P h t m k ok = some v) = true then K v else none
 else zjA P h t m k ok K
noncomputable def zeU (h : zaa) (m : AV) (x : Option zaa) : Option zaa :=
 match m with
 | .map (some r) => if zaE (x = some (zks h r x false)) = true then some (zks h r x true) else none
 | _ => none
noncomputable def zfU {R : Type} (h : zaa) (m : AV) (x : Option zaa) (K : zaa → Option R) : Option R :=
 match m with
 | .map (some r) => if zaE (x = some (zks h r x false)) = true then K (zks h r x true) else none
 | _ => none
noncomputable def zdQ (P : Program) (h : zaa) (t : TypeId) (m k v : AV) : Option zaa := if zgn h m = true then zeU h m (zcP P h t m k v) else zcP P h t m k v
noncomputable def zdr {R : Type} (P : Program) (h : zaa) (t : TypeId) (m k v : AV) (K : zaa → Option R) : Option R := if zgn h m = true then zfU h m (zcP P h t m k v) K else zfT P h t m k v K
noncomputable def zhx (P : Program) (h : zaa) (t : TypeId) (m k : AV) : Option zaa := if zgn h m = true then zeU h m (zfj P h t m k) else zfj P h t m k
noncomputable def zit {R : Type} (P : Program) (h : zaa) (t : TypeId) (m k : AV) (K : zaa → Option R) : Option R := if zgn h m = true then zfU h m (zfj P h t m k) K else zjx P h t m k K
noncomputable def zdX (h : zaa) (m s v : AV) : Option zaa := if zgn h m = true then zeU h m (zcW h m s v) else zcW h m s v
noncomputable def zef {R : Type} (h : zaa) (m s v : AV) (K : zaa → Option R) : Option R := if zgn h m = true then zfU h m (zcW h m s v) K else (zcW h m s v).bind K
noncomputable def zBL (P : Program) (t : TypeId) (x : Option (AV × zaa)) : Option AV :=
 (zAZ P t (zBH (x.map Prod.fst))).map fun v => .tup [v, .int .i64 (opq (zad (zBK (x.map Prod.fst))))]
noncomputable def zfF (P : Program) (h : zaa) (t : TypeId) (m k : AV) : Option (AV × zaa) :=
 if zgn h m = true then
  match m with
  | .map (some r) => (zBL P t (zbO P h t m k)).bind fun v =>
   if zaE (zbO P h t m k = some (v, zks h r ((zbO P h t m k).map Prod.snd) false)) = true then some (v, zks h r ((zbO P h t m k).map Prod.snd) true) else none
  | _ => none
 else zbO P h t m k
noncomputable def zf0 {R : Type} (P : Program) (h : zaa) (t : TypeId) (m k : AV) (K : AV → zaa → Option R) : Option R :=
 if zgn h m = true then
  match m with
  | .map (some r) => (zBL P t (zbO P h t m k)).bind fun v =>
   if zaE (zbO P h t m k = some (v, zks h r ((zbO P h t m k).map Prod.snd) false)) = true then K v (zks h r ((zbO P h t m k).map Prod.snd) true) else none
  | _ => none
 else zgJ P h t m k K


def aev (env : Env) : Operand → AV
 | .tmp t => env.getD t (.tup [])
 | .const v => ofV v
 | .global _ => .any
 | .func f => .fn (.func f) []

def zfW (env : Env) : Option Tmp → AV → Env
 | none, _ => env
 | some d, v => env.set d v

def zik (mx : Bool) : AV → AV → Option AV
 | .int k x, .int k' y => if k = k' then some (.int k (if mx then (if y > x then y else x) else (if y < x then y else x))) else none
 | _, _ => none

def zdV (f : AV → AV → Option AV) : AV → List AV → Option AV
 | x, [] => some x
 | x, y :: r => (f x y).bind fun z => zdV f z r

noncomputable def zdC {R : Type} (P : Program) (h : zaa) (env : Env) (o : Oper) (K : AV → zaa → Option R) (C : Fn → List AV → Option R) : Option R :=
 match o.op with
 | .move x => K (aev env x) h
 | .assign x => K (aev env x) h
 | .pick c a b =>
  match aev env c with
  | .bool t => if t = true then K (aev env a) h else K (aev env b) h
  | _ => none
 | .alloc t => (ziS P h t).bind fun (x : AV × zaa) => K x.1 x.2
 | .box t v => (zul P h t (aev env v)).bind fun (x : AV × zaa) => K x.1 x.2
 | .build t ps => (zmh P t (ps.toList.map fun p => (p.1, aev env p.2))).bind fun v => K v h
 | .buildSlice t n ps => (zcp P h t n (ps.toList.map fun p => (p.1, aev env p.2))).bind fun (x : AV × zaa) => K x.1 x.2
 | .load t a => (ziV P h t (aev env a)).bind fun v => K v h
 | .store t a x => (zmH P h t (aev env a) (aev env x)).bind fun h' => K (.tup []) h'
 | .nilCheck x =>
  match aev env x with
  | .ptr (some a) => K (.ptr (some a)) h
  | .fn (.func f) c => K (.fn (.func f) c) h
  | .fn (.yield f) c => K (.fn (.yield f) c) h
  | _ => none
 | .binOp op xt x y _ => (zqF P op xt (aev env x) (aev env y)).bind fun v => K v h
 | .unOp op _ x => (aun op (aev env x)).bind fun v => K v h
 | .convert s d x => (zld P h s d (aev env x)).bind fun (x : AV × zaa) => K x.1 x.2
 | .sliceToArrayPointer arr x =>
  match P.underlying arr, aev env x with
  | some (.array n _), .sl (some (i, o)) len _ _ => if n ≤ len ∧ 0 < n then K (.ptr (some (i, o))) h else none
  | _, _ => none
 | .makeFunc fn first cap => if first.isEmpty then (match fn with | .func f => K (.fn (.func f) (cap.toList.map (aev env))) h | _ => none) else none
 | .makeMap _ r => match r with
  | none => K (.map (some h.length)) (h ++ [.mp [] 0 false])
  | some _ => none
 | .makeSlice t l c => (zdP P h t (aev env l) (aev env c) (zmq l c)).bind fun (x : AV × zaa) => K x.1 x.2
 | .slice t x lo hi mx => (zml P t (aev env x) (lo.map (aev env)) (hi.map (aev env)) (mx.map (aev env))).bind fun v => K v h
 | .fieldAddr s x f => (zeF P s (aev env x) f).bind fun v => K v h
 | .field xt x f => (zmD P xt (aev env x) f).bind fun v => K v h
 | .indexAddr t x ix => (zeB P t (aev env x) (aev env ix)).bind fun v => K v h
 | .index t x ix => (zmr P t (aev env x) (aev env ix)).bind fun v => K v h
 | .lookup t x ix ok => (zeW P h t (aev env x) (aev env ix) ok).bind fun v => K v h
 | .mapUpdate t m k x => (zdQ P h t (aev env m) (aev env k) (aev env x)).bind fun h' => K (.tup []) h'
 | .insert t m k x => (zdQ P h t (aev env m) (aev env k) (aev env x)).bind fun h' => K (.tup []) h'
 | .mapEntry t m k => (zfF P h t (aev env m) (aev env k)).bind fun (x : AV × zaa) => K x.1 x.2
 | .entryStore _ m s x => (zdX h (aev env m) (aev env s) (aev env x)).bind fun h' => K (.tup []) h'
 | .extract t ix =>
  match aev env t with
  | .tup l => (l[ix]?).bind fun v => K v h
  | _ => none
 | .call c =>
  match c.callee with
  | .value f =>
   match aev env f with
   | .fn fn cap => C fn (c.args.toList.map (aev env) ++ cap)
   | _ => none
  | .builtin b =>
   match b, c.args.toList.map (aev env), c.argTypes.toList with
   | .append, [s, x], ts => (zhK P h ts s x).bind fun (x : AV × zaa) => K x.1 x.2
   | .copy, [d, s], ts => (zqy P h ts d s).bind fun (x : AV × zaa) => K x.1 x.2
   | .len, [x], [t] => (zuj P h t x).bind fun v => K v h
   | .cap, [x], [t] => (zyO P t x).bind fun v => K v h
   | .clear, [x], [t] => (zkw P h t x).bind fun h' => K (.tup []) h'
   | .delete, [m, k], t :: _ => (zhx P h t m k).bind fun h' => K (.tup []) h'
   | .min, x :: r, _ => (zdV (zik false) x r).bind fun v => K v h
   | .max, x :: r, _ => (zdV (zik true) x r).bind fun v => K v h
   | _, _, _ => none
  | .invoke _ _ => none
 | _ => none

noncomputable def aop {R : Type} (P : Program) (h : zaa) (env : Env) (o : Oper) (K : AV → zaa → Option R) (C : Fn → List AV → Option R) : Option R :=
 match o.op with
 | .move x => K (aev env x) h
 | .assign x => K (aev env x) h
 | .pick c a b =>
  match aev env c with
  | .bool t => if t = true then K (aev env a) h else K (aev env b) h
  | _ => none
 | .alloc t => (ziS P h t).bind fun (x : AV × zaa) => K x.1 x.2
 | .box t v => (zul P h t (aev env v)).bind fun (x : AV × zaa) => K x.1 x.2
 | .build t ps => zlY P t (ps.toList.map fun p => (p.1, aev env p.2)) fun v => K v h
 | .buildSlice t n ps => zec P h t n (ps.toList.map fun p => (p.1, aev env p.2)) K
 | .load t a => zod P h t (aev env a) fun v => K v h
 | .store t a x => zlS P h t (aev env a) (aev env x) fun h' => K (.tup []) h'
 | .nilCheck x =>
  match aev env x with
  | .ptr (some a) => K (.ptr (some a)) h
  | .fn (.func f) c => K (.fn (.func f) c) h
  | .fn (.yield f) c => K (.fn (.yield f) c) h
  | _ => none
 | .binOp op xt x y _ => zvA P op xt (aev env x) (aev env y) fun v => K v h
 | .unOp op _ x => (aun op (aev env x)).bind fun v => K v h
 | .convert s d x => zov P h s d (aev env x) K
 | .sliceToArrayPointer arr x =>
  match P.underlying arr, aev env x with
  | some (.array n _), .sl (some (i, o)) len _ _ => if n ≤ len ∧ 0 < n then K (.ptr (some (i, o))) h else none
  | _, _ => none
 | .makeFunc fn first cap => if first.isEmpty then (match fn with | .func f => K (.fn (.func f) (cap.toList.map (aev env))) h | _ => none) else none
 | .makeMap _ r => match r with
  | none => K (.map (some h.length)) (h ++ [.mp [] 0 false])
  | some _ => none
 | .makeSlice t l c => ze5 P h t (aev env l) (aev env c) (zmq l c) K
 | .slice t x lo hi mx => zlz P t (aev env x) (lo.map (aev env)) (hi.map (aev env)) (mx.map (aev env)) fun v => K v h
 | .fieldAddr s x f => (zeF P s (aev env x) f).bind fun v => K v h
 | .field xt x f => zly P xt (aev env x) f fun v => K v h
 | .indexAddr t x ix => zeV P t (aev env x) (aev env ix) fun v => K v h
 | .index t x ix => zk5 P t (aev env x) (aev env ix) fun v => K v h
 | .lookup t x ix ok => zio P h t (aev env x) (aev env ix) ok fun v => K v h
 | .mapUpdate t m k x => zdr P h t (aev env m) (aev env k) (aev env x) fun h' => K (.tup []) h'
 | .insert t m k x => zdr P h t (aev env m) (aev env k) (aev env x) fun h' => K (.tup []) h'
 | .mapEntry t m k => zf0 P h t (aev env m) (aev env k) K
 | .entryStore _ m s x => zef h (aev env m) (aev env s) (aev env x) fun h' => K (.tup []) h'
 | .extract t ix =>
  match aev env t with
  | .tup l => (l[ix]?).bind fun v => K v h
  | _ => none
 | .call c =>
  match c.callee with
  | .value f =>
   match aev env f with
   | .fn fn cap => C fn (c.args.toList.map (aev env) ++ cap)
   | _ => none
  | .builtin b =>
   match b, c.args.toList.map (aev env), c.argTypes.toList with
   | .append, [s, x], ts => ziy P h ts s x K
   | .copy, [d, s], ts => zoG P h ts d s K
   | .len, [x], [t] => (zuj P h t x).bind fun v => K v h
   | .cap, [x], [t] => (zyO P t x).bind fun v => K v h
   | .clear, [x], [t] => zlW P h t x fun h' => K (.tup []) h'
   | .delete, [m, k], t :: _ => zit P h t m k fun h' => K (.tup []) h'
   | .min, x :: r, _ => (zdV (zik false) x r).bind fun v => K v h
   | .max, x :: r, _ => (zdV (zik true) x r).bind fun v => K v h
   | _, _, _ => none
  | .invoke _ _ => none
 | _ => none

structure CallT where
 run : {R : Type} → Fn → List AV → zaa → (AV → zaa → Option R) → Option R
 nat : ∀ {R : Type} (f : Fn) (args : List AV) (h : zaa) (K : AV → zaa → Option R), run f args h K = (run f args h fun v h => some (v, h)).bind fun x => K x.1 x.2

def CallT.get (C : CallT) (f : Fn) (args : List AV) (h : zaa) : Option (AV × zaa) := C.run f args h fun v h => some (v, h)

structure LoopF where
 run : {R : Type} → Env → zaa → (AEx → Env → zaa → Option R) → Option R
 nat : ∀ {R : Type} (env : Env) (h : zaa) (K : AEx → Env → zaa → Option R), run env h K = (run env h fun e env h => some (e, env, h)).bind fun x => K x.1 x.2.1 x.2.2

def LoopF.get (C : LoopF) (env : Env) (h : zaa) : Option (AEx × Env × zaa) := C.run env h fun e env h => some (e, env, h)

structure Ent where
 run : {R : Type} → List AV → zaa → (AV → zaa → Option R) → Option R
 nat : ∀ {R : Type} (args : List AV) (h : zaa) (K : AV → zaa → Option R), run args h K = (run args h fun v h => some (v, h)).bind fun x => K x.1 x.2

def Ent.get (C : Ent) (args : List AV) (h : zaa) : Option (AV × zaa) := C.run args h fun v h => some (v, h)

noncomputable def zgR {R : Type} (P : Program) (CALL : CallT) (o : Oper) (env : Env) (h : zaa) (K : AV → zaa → Option R) : Option R :=
 aop P h env o K fun f args => CALL.run f args h K

def zfv {R : Type} (ops : List Oper) (o : Oper) (env : Env) (T F : Env → Option R) : Option R :=
 match o.guard with
 | none => T env
 | some (j, want) =>
  match (ops[j]?).bind (·.dst) with
  | none => F env
  | some d =>
   match env[d]? with
   | some (.bool b) => if b = true then (if want then T (env.set d (.bool true)) else F (env.set d (.bool true))) else (if want then F (env.set d (.bool false)) else T (env.set d (.bool false)))
   | some (.tup []) => F env
   | _ => none

noncomputable def zlE {R : Type} (P : Program) (CALL : CallT) (ops : List Oper) : List Nat → Env → zaa → (Env → zaa → Option R) → Option R
 | [], env, h, K => K env h
 | i :: rest, env, h, K =>
  match ops[i]? with
  | none => none
  | some o =>
   zfv ops o env
    (fun env => zgR P CALL o env h fun v h' => zlE P CALL ops rest (zfW env o.dst v) h' K)
    (fun env => zlE P CALL ops rest (zfW env o.dst (.tup [])) h K)


def zct (P : Program) : Op → Bool
 | .convert s d _ => (match P.underlying s, P.underlying d with | some (.int _), some (.int _) => false | some (.slice _), some .string => false | _, _ => true)
 | .move _ | .assign _ | .pick .. | .build .. | .load .. | .nilCheck _ | .binOp .. | .unOp .. | .sliceToArrayPointer .. | .makeFunc .. | .slice .. | .fieldAddr .. | .field ..
 | .indexAddr .. | .index .. | .lookup .. | .extract .. => false
 | .call { callee := .builtin b, .. } => match b with | .len | .cap | .min | .max => false | _ => true
 | _ => true

def still (P : Program) : Op → Bool
 | .convert s d _ => (match P.underlying s, P.underlying d with | some (.int _), some (.int _) => true | _, _ => false)
 | .move _ | .assign _ | .pick .. | .build .. | .nilCheck _ | .binOp .. | .unOp .. | .sliceToArrayPointer .. | .makeFunc .. | .slice .. | .fieldAddr .. | .field ..
 | .indexAddr .. | .index .. | .extract .. => true
 | .call { callee := .builtin b, .. } => match b with | .cap | .min | .max => true | _ => false
 | _ => false

def zwj : Op → Bool
 | .alloc _ | .box .. | .buildSlice .. | .makeSlice .. | .makeMap .. => true
 | _ => false

def zyK : Op → Bool
 | .alloc _ | .buildSlice .. => true
 | _ => false

def zds (o : Oper) : List Edge := o.after.toList.filter fun e => match e.ground with | .textOnly _ | .gcOnly _ => false | _ => true

def zbJ (ops : List Oper) : List Nat :=
 ops.foldl (fun acc o => acc ++ [(zds o).foldl (fun s e => s ||| 2 ^ e.on ||| acc.getD e.on 0) 0]) []

def zcs (an : List Nat) (i j : Nat) : Bool := (an.getD i 0).testBit j || (an.getD j 0).testBit i

def zc7 (ops : List Oper) (o : Oper) : List Tmp :=
 (o.op.operands.toList.filterMap fun | .tmp t => some t | _ => none) ++ (match o.guard with | some (j, _) => ((ops[j]?).bind (·.dst)).toList | none => [])

def zsT (an : List Nat) (ops : List Oper) (i j : Nat) : Bool :=
 (match ops[max i j]? with | some o => zyK o.op | none => false) && (List.range ops.length).all fun k => !(an.getD k 0).testBit (max i j) || (an.getD k 0).testBit (min i j)

def zr8 (P : Program) (ops : List Oper) : Bool :=
 let an := zbJ ops
 ((ops.zipIdx.all fun (o, j) => o.after.toList.all fun e => decide (e.on < j) && (match e.ground with | .gcOnly _ => false | _ => true)) ||
  ((ops.zipIdx.all fun (o, j) => o.after.toList.all fun e => decide (e.on < ops.length) && (match e.ground with | .gcOnly _ => true | _ => decide (e.on < j))) &&
   (let L := Region.linearise .gc ops.toArray 0
    ops.zipIdx.all fun (o, j) => o.after.toList.all fun e => match e.ground with | .textOnly _ => true | _ => decide (L.idxOf e.on < L.idxOf j)))) &&
 (ops.zipIdx.all fun (o, j) => ops.zipIdx.all fun (o', i) => i == j ||
  ((match o.dst with | some d => decide (o'.dst ≠ some d) && (zcs an i j || !(zc7 ops o').contains d) | none => true) &&
   (zcs an i j || !(zct P o.op && zct P o'.op) || zsT an ops i j)))

def zj7 (P : Program) (ops : List Oper) (n : Nat) : Bool := zr8 P ops &&
 (ops.all fun o => match o.dst with | some d => decide (d < n) | none => true)

noncomputable def zeT (P : Program) (o : Oper) (env : Env) (h : zaa) : Option AV := aop P h env o (fun v _ => some v) fun _ _ => none

noncomputable def zri {R : Type} (P : Program) (o : Oper) (env : Env) (h : zaa) (v : AV) (K : Option R) : Option R := aop P h env o (fun u _ => if AV.beq u v = true then K else none) fun _ _ => none

def zqo {R : Type} (x : Option AV) (v : AV) (K : Option R) : Option R := x.bind fun u => if AV.beq u v = true then K else none

structure Rec where
 ran : Bool
 v : AV
 env : Env
 h : zaa
 h' : zaa

noncomputable def zep {R : Type} (P : Program) (CALL : CallT) (ops : List Oper) : List Nat → Env → zaa → List Rec → (List Rec → Env → zaa → Option R) → Option R
 | [], env, h, T, K => K T env h
 | i :: rest, env, h, T, K =>
  match ops[i]? with
  | none => none
  | some o =>
   zfv ops o env
    (fun env => zgR P CALL o env h fun v h' => zep P CALL ops rest (zfW env o.dst v) h' (T ++ [⟨true, v, env, h, h'⟩]) K)
    (fun env => zep P CALL ops rest (zfW env o.dst (.tup [])) h (T ++ [⟨false, .tup [], env, h, h⟩]) K)

def zdW (P : Program) (ops : List Oper) : List (Nat × Nat) :=
 let an := zbJ ops
 ops.zipIdx.flatMap fun (o, i) =>
  if (zct P o.op || still P o.op) = true then [] else
  ops.zipIdx.filterMap fun (o', c) => if (zct P o'.op && !zcs an i c && (decide (c < i) || !zwj o'.op)) = true then some (i, c) else none

noncomputable def zeM {R : Type} (P : Program) (ops : List Oper) (T : List Rec) : List (Nat × Nat) → Option R → Option R
 | [], K => K
 | (i, c) :: l, K =>
  match T[i]?, T[c]?, ops[i]? with
  | some x, some y, some o =>
   if (x.ran && y.ran) = true then zri P o x.env (if c < i then y.h else y.h') x.v (zeM P ops T l K) else zeM P ops T l K
  | _, _, _ => none


def zaX : Code → Nat
 | .region i _ _ => i
 | .seq a _ => zaX a
 | .cond _ a _ => zaX a
 | .block _ a => zaX a
 | .loop a => zaX a
 | .rangeFunc _ _ a _ => zaX a
 | .scope a => zaX a
 | _ => 0

abbrev zcQ := Nat → Option LoopF

def zcL : Env → List (Tmp × AV) → Env
 | env, [] => env
 | env, (t, v) :: r => zcL (env.set t v) r

noncomputable def zbb {R : Type} (P : Program) (CALL : CallT) (LS : zcQ) : Code → Env → zaa → (AEx → Env → zaa → Option R) → Option R
 | .skip, env, h, K => K .norm env h
 | .label _, env, h, K => K .norm env h
 | .region _ ops draw, env, h, K =>
  if draw then (if zj7 P ops.toList env.length = true then zep P CALL ops.toList (List.range ops.toList.length) env h [] fun T env h => zeM P ops.toList T (zdW P ops.toList) (K .norm env h) else none)
  else zlE P CALL ops.toList (List.range ops.toList.length) env h fun env h => K .norm env h
 | .seq a b, env, h, K => zbb P CALL LS a env h fun e env h => match e with
  | .norm => zbb P CALL LS b env h K
  | e => K e env h
 | .cond c a b, env, h, K =>
  match aev env c with
  | .bool t => if t = true then zbb P CALL LS a env h K else zbb P CALL LS b env h K
  | _ => none
 | .block i c, env, h, K => zbb P CALL LS c env h fun e env h => match e with
  | .exit j => if j = i then K .norm env h else K (.exit j) env h
  | e => K e env h
 | .loop c, env, h, K =>
  match LS (zaX c) with
  | some s => s.run env h K
  | none => none
 | .rangeFunc g ps a c, env, h, K =>
  match aev env g with
  | .fn (.func id) cap =>
   CALL.run (.func id) (.fn (.yield h.length) [] :: cap) (h ++ [.lp { st := .ready, pend := none, env := env, ps := ps.toList, asg := a, body := c }]) fun _ h2 =>
    match h2[h.length]? with
    | some (.lp L) =>
     if L.st = .busy then none else
     match L.pend with
     | none => K .norm env (h2.set h.length (.lp { L with st := .exhausted }))
     | some e => K e env (h2.set h.length (.lp { L with st := .exhausted }))
    | _ => none
  | _ => none
 | .exit i, env, h, K => K (.exit i) env h
 | .ret, env, h, K => K .ret env h
 | _, _, _, _ => none

def zcw (P : Program) (env : Env) (h : zaa) : List ResultVar → Option (List AV)
 | [] => some []
 | .tmp t :: r => (zcw P env h r).map fun l => env.getD t (.tup []) :: l
 | .cell a t :: r => (ziV P h t (env.getD a (.tup []))).bind fun v => (zcw P env h r).map fun l => v :: l

def zz0 : List AV → AV
 | [v] => v
 | l => .tup l

noncomputable def zch {R : Type} (P : Program) (CALL : CallT) (LS : zcQ) (f : FuncId) (args : List AV) (h : zaa) (K : AV → zaa → Option R) : Option R :=
 match P.funcs[f]? with
 | some fn =>
  match fn.body with
  | some c =>
   if fn.name = "runtime.NumGoroutine" then none else
   zbb P CALL LS c (args ++ List.replicate (fn.ntmps - args.length) (.tup [])) h fun e env h =>
    match e with
    | .exit _ => none
    | _ => (zcw P env h fn.results.toList).bind fun l => K (zz0 l) h
  | none => none
 | none => none

def zei : Code → Bool
 | .seq a b => zei a && zei b
 | .cond _ a b => zei a && zei b
 | .block _ a => zei a
 | .loop _ => false
 | .rangeFunc .. => false
 | .scope _ => false
 | _ => true

noncomputable def zdy {R : Type} (P : Program) (CALL : CallT) (l : Nat) (args : List AV) (h : zaa) (K : AV → zaa → Option R) : Option R :=
 match h[l]? with
 | some (.lp L) =>
  if L.st = .ready ∧ args.length = L.ps.length ∧ zei L.asg = true ∧ zei L.body = true then
   zbb P CALL (fun _ => none) L.asg (zcL L.env (L.ps.zip args)) h fun e env h =>
    match e with
    | .norm =>
     match h[l]? with
     | some (.lp L1) =>
      if L1.st = .ready then
      zbb P CALL (fun _ => none) L.body env (h.set l (.lp { L1 with st := .busy })) fun e _ h =>
       match h[l]? with
       | some (.lp L2) =>
        match e with
        | .norm => K (.bool true) (h.set l (.lp { L2 with st := .ready, pend := none }))
        | e => K (.bool false) (h.set l (.lp { L2 with st := .done, pend := some e }))
       | _ => none
      else none
     | _ => none
    | _ => none
  else none
 | _ => none

def zb5 : List Bool → Env → Env
 | b :: bs, v :: env => (if b then v else .any) :: zb5 bs env
 | [], env => env
 | _, [] => []

def zjE (body : Env → zaa → Option (AEx × Env × zaa)) (keep : List Bool) : Nat → Env → zaa → Option (AEx × Env × zaa)
 | 0, _, _ => none
 | j + 1, env, h => (body (zb5 keep env) h).bind fun x =>
  match x.1 with
  | .norm => zjE body keep j x.2.1 x.2.2
  | e => some (e, zb5 keep x.2.1, x.2.2)

end Go.Abs

end

section
/- The abstract heap held against a world: values, blocks, what a step may turn; the laws by which the relation is kept. -/
set_option autoImplicit false
set_option linter.unusedVariables false
set_option linter.unusedSimpArgs false
namespace Go.Abs

structure Plc where
 blk : Nat
 off : Nat
 spare : Nat
 deriving Inhabited

abbrev Sig := List Plc

mutual
inductive VR (σ : Sig) : AV → Value → Prop
 | any (v : Value) : VR σ .any v
 | bool (b : Bool) : VR σ (.bool b) (.bool b)
 | int (k : IntKind) (n : Int) : VR σ (.int k n) (.int k n)
 | str (s : ByteArray) : VR σ (.str s.data.toList) (.string s)
 | ptr0 : VR σ (.ptr none) (.pointer none)
 | ptr (i o : Nat) (p : Plc) (h : σ[i]? = some p) : VR σ (.ptr (some (i, o))) (.pointer (some ⟨p.blk, p.off + o, none⟩))
 | sl0 (e : Bool) : VR σ (.sl none 0 0 e) (.slice none 0 0)
 | sl (i o l c : Nat) (e : Bool) (p : Plc) (a : Addr) (c' : Nat) (h : σ[i]? = some p) (hl : l ≤ c') (hc : c' = zai l c e + (if e then 0 else p.spare))
  (ha : a = ⟨p.blk, p.off + o, none⟩ ∨ c' = 0) : VR σ (.sl (some (i, o)) l c e) (.slice (some a) l c')
 | sln (i o : Nat) (p : Plc) (h : σ[i]? = some p) (hc : p.spare = 0) : VR σ (.sl (some (i, o)) 0 0 false) (.slice none 0 0)
 | map0 : VR σ (.map none) (.map none)
 | map (i : Nat) (p : Plc) (h : σ[i]? = some p) : VR σ (.map (some i)) (.map (some p.blk))
 | fn (f : FuncId) (cap : List AV) (cap' : List Value) (h : VRs σ cap cap') : VR σ (.fn (.func f) cap) (.func (.func f) #[] cap'.toArray)
 | yld (i : Nat) (p : Plc) (h : σ[i]? = some p) : VR σ (.fn (.yield i) []) (.func (.yield p.blk) #[] #[])
 | nilFn : VR σ .nilFn .nilFunc
 | agg (l : List AV) (cs : List Value) (h : VRs σ l cs) : VR σ (.agg l) (.agg cs.toArray)
 | tup (l : List AV) (cs : List Value) (h : VRs σ l cs) : VR σ (.tup l) (.tuple cs.toArray)
inductive VRs (σ : Sig) : List AV → List Value → Prop
 | nil : VRs σ [] []
 | cons (a : AV) (v : Value) (l : List AV) (m : List Value) (h : VR σ a v) (t : VRs σ l m) : VRs σ (a :: l) (v :: m)
end

theorem zoF {l c c' s : Nat} {e : Bool} (hl : l ≤ c') (hc : c' = zai l c e + (if e then 0 else s)) : l ≤ zai l c e ∧ zai l c e ≤ c' := by
 cases e <;> simp [zai] at hc ⊢ <;> omega

theorem zpD {len r a b : Nat} {full ex : Bool} (h1 : a ≤ b) (h2 : b ≤ zai len r ex) (hf : full = true → b = len) : zai (b - a) (zac len r a full b ex) ex = zai len r ex - a := by
 cases ex with
 | true => rfl
 | false =>
  simp only [zai] at h2 ⊢
  cases full with
  | true => have := hf rfl; simp only [zac]; omega
  | false => simp only [zac]; omega

theorem VRs.length {σ : Sig} : ∀ {l : List AV} {m : List Value}, VRs σ l m → l.length = m.length
 | _, _, .nil => rfl
 | _, _, .cons _ _ _ _ _ t => by simp [t.length]

theorem VRs.get {σ : Sig} : ∀ {l : List AV} {m : List Value}, VRs σ l m → ∀ {i : Nat} {a : AV}, l[i]? = some a → ∃ v, m[i]? = some v ∧ VR σ a v
 | _, _, .nil, _, _, h => by simp at h
 | _, _, .cons a v _ _ h t, 0, _, e => by simp at e; subst e; exact ⟨v, rfl, h⟩
 | _, _, .cons _ _ _ _ _ t, i + 1, _, e => by simp at e; obtain ⟨v, h1, h2⟩ := t.get e; exact ⟨v, by simpa using h1, h2⟩

theorem VRs.of_get {σ : Sig} : ∀ {l : List AV} {m : List Value}, l.length = m.length → (∀ (i : Nat) a v, l[i]? = some a → m[i]? = some v → VR σ a v) → VRs σ l m
 | [], [], _, _ => .nil
 | a :: l, v :: m, hl, h => .cons _ _ _ _ (h 0 a v rfl rfl) (VRs.of_get (by simpa using hl) fun i x y hx hy => h (i + 1) x y (by simpa using hx) (by simpa using hy))
 | [], _ :: _, hl, _ => by simp at hl
 | _ :: _, [], hl, _ => by simp at hl

theorem VRs.set {σ : Sig} {l : List AV} {m : List Value} (h : VRs σ l m) (i : Nat) {a : AV} {v : Value} (hv : VR σ a v) : VRs σ (l.set i a) (m.set i v) := by
 refine VRs.of_get (by simp [h.length]) fun j x y hx hy => ?_
 rw [List.getElem?_set] at hx hy
 by_cases e : i = j
 · subst e
   simp only [if_true] at hx hy
   split at hx
   · split at hy
     · simp at hx hy; subst hx; subst hy; exact hv
     · simp at hy
   · simp at hx
 · rw [if_neg e] at hx hy
   obtain ⟨v', h1, h2⟩ := h.get hx
   rw [h1] at hy; simp at hy; subst hy; exact h2

theorem VRs.append {σ : Sig} : ∀ {l : List AV} {m : List Value} {l' : List AV} {m' : List Value}, VRs σ l m → VRs σ l' m' → VRs σ (l ++ l') (m ++ m')
 | _, _, _, _, .nil, h => h
 | _, _, _, _, .cons _ _ _ _ h t, h' => .cons _ _ _ _ h (t.append h')

theorem VRs.drop {σ : Sig} : ∀ (n : Nat) {l : List AV} {m : List Value}, VRs σ l m → VRs σ (l.drop n) (m.drop n)
 | 0, _, _, h => h
 | _ + 1, _, _, .nil => by simp; exact .nil
 | n + 1, _, _, .cons _ _ _ _ _ t => by simpa using t.drop n

theorem VRs.take {σ : Sig} : ∀ (n : Nat) {l : List AV} {m : List Value}, VRs σ l m → VRs σ (l.take n) (m.take n)
 | 0, _, _, _ => by simp; exact .nil
 | _ + 1, _, _, .nil => by simp; exact .nil
 | n + 1, _, _, .cons _ _ _ _ h t => by simpa using .cons _ _ _ _ h (t.take n)

theorem VRs.map_of {σ : Sig} {α : Type} (f : α → AV) (g : α → Value) : ∀ (l : List α), (∀ x ∈ l, VR σ (f x) (g x)) → VRs σ (l.map f) (l.map g)
 | [], _ => .nil
 | a :: l, h => .cons _ _ _ _ (h a (by simp)) (VRs.map_of f g l fun x hx => h x (by simp [hx]))

theorem VRs.replicate {σ : Sig} {a : AV} {v : Value} (h : VR σ a v) : ∀ n, VRs σ (List.replicate n a) (List.replicate n v)
 | 0 => .nil
 | n + 1 => .cons _ _ _ _ h (VRs.replicate h n)

theorem VRs.flatten {σ : Sig} {l : List AV} {m : List Value} (h : VRs σ l m) : ∀ n, VRs σ (List.replicate n l).flatten (List.replicate n m).flatten
 | 0 => .nil
 | n + 1 => by simpa [List.replicate_succ] using h.append (h.flatten n)

mutual
theorem VR.grow {σ : Sig} (τ : Sig) : ∀ {a : AV} {v : Value}, VR σ a v → VR (σ ++ τ) a v
 | _, _, .any v => .any v
 | _, _, .bool b => .bool b
 | _, _, .int k n => .int k n
 | _, _, .str s => .str s
 | _, _, .ptr0 => .ptr0
 | _, _, .ptr i o p h => .ptr i o p (by rw [List.getElem?_append_left (List.getElem?_eq_some_iff.1 h).1]; exact h)
 | _, _, .sl0 e => .sl0 e
 | _, _, .sl i o l c e p a c' h hl hc ha => .sl i o l c e p a c' (by rw [List.getElem?_append_left (List.getElem?_eq_some_iff.1 h).1]; exact h) hl hc ha
 | _, _, .sln i o p h hc => .sln i o p (by rw [List.getElem?_append_left (List.getElem?_eq_some_iff.1 h).1]; exact h) hc
 | _, _, .map0 => .map0
 | _, _, .map i p h => .map i p (by rw [List.getElem?_append_left (List.getElem?_eq_some_iff.1 h).1]; exact h)
 | _, _, .fn f cap cap' h => .fn f cap cap' (VRs.grow τ h)
 | _, _, .yld i p h => .yld i p (by rw [List.getElem?_append_left (List.getElem?_eq_some_iff.1 h).1]; exact h)
 | _, _, .nilFn => .nilFn
 | _, _, .agg l cs h => .agg l cs (VRs.grow τ h)
 | _, _, .tup l cs h => .tup l cs (VRs.grow τ h)
theorem VRs.grow {σ : Sig} (τ : Sig) : ∀ {l : List AV} {m : List Value}, VRs σ l m → VRs (σ ++ τ) l m
 | _, _, .nil => .nil
 | _, _, .cons a v l m h t => .cons a v l m (VR.grow τ h) (VRs.grow τ t)
end


def zue : AEx → Code
 | .norm => .skip
 | .exit i => .exit i
 | .ret => .ret

structure LoopR (σ : Sig) (L : ALoop) (l : Loop) : Prop where
 st : l.state = L.st
 pend : l.pending = L.pend.map zue
 env : VRs σ L.env l.tmps.toList
 ps : l.params.toList = L.ps
 asg : l.assign = L.asg
 body : l.body = L.body

inductive ERs (σ : Sig) : List (AV × AV × Nat) → List MapEntry → Prop
 | nil : ERs σ [] []
 | cons (k v : AV) (b : Nat) (e : MapEntry) (l : List (AV × AV × Nat)) (m : List MapEntry) (hk : VR σ k e.key) (hv : VR σ v e.val) (hb : e.born = b) (t : ERs σ l m) : ERs σ ((k, v, b) :: l) (e :: m)

theorem ERs.grow {σ : Sig} (τ : Sig) : ∀ {l : List (AV × AV × Nat)} {m : List MapEntry}, ERs σ l m → ERs (σ ++ τ) l m
 | _, _, .nil => .nil
 | _, _, .cons k v b e l m hk hv hb t => .cons k v b e l m (hk.grow τ) (hv.grow τ) hb (t.grow τ)

def ABlk.void : ABlk → Bool
 | .dead => true
 | .cells [] _ _ _ => true
 | _ => false

def ObjR (σ : Sig) (p : Plc) (w : World) : ABlk → Prop
 | .cells vs esz md _ => (vs = [] ∧ (md = .own → p.spare = 0)) ∨ vs ≠ [] ∧ ∃ c t fr, w.heap[p.blk]? = some (.cells c t fr) ∧ VRs σ vs ((c.toList.drop p.off).take vs.length) ∧
  (md = .own → (∀ j, p.off ≤ j → j < c.size → ¬ (fr.1 ≤ j ∧ j < fr.2)) ∧ p.off + vs.length + p.spare * esz ≤ c.size)
 | .mp es clk _ => ∃ es', w.heap[p.blk]? = some (.map es' clk) ∧ ERs σ es es'.toList
 | .lp L => ∃ L', w.heap[p.blk]? = some (.loop L') ∧ LoopR σ L L'
 | .dead => True

theorem LoopR.grow {σ : Sig} (τ : Sig) {L : ALoop} {l : Loop} (h : LoopR σ L l) : LoopR (σ ++ τ) L l :=
 ⟨h.st, h.pend, h.env.grow τ, h.ps, h.asg, h.body⟩

theorem ObjR.grow {σ : Sig} (τ : Sig) {p : Plc} {w : World} {b : ABlk} (h : ObjR σ p w b) : ObjR (σ ++ τ) p w b := by
 cases b with
 | cells vs esz md par =>
  rcases h with h | ⟨h0, c, t, fr, h1, h2, h3⟩
  · exact .inl h
  · exact .inr ⟨h0, c, t, fr, h1, h2.grow τ, h3⟩
 | mp es clk sy => obtain ⟨es', h1, h2⟩ := h; exact ⟨es', h1, h2.grow τ⟩
 | lp L => obtain ⟨L', h1, h2⟩ := h; exact ⟨L', h1, h2.grow τ⟩
 | dead => trivial

theorem ObjR.world {σ : Sig} {p : Plc} {w w' : World} {b : ABlk} (h : ObjR σ p w b) (e : w'.heap[p.blk]? = w.heap[p.blk]?) : ObjR σ p w' b := by
 cases b with
 | cells vs esz md par =>
  rcases h with h | ⟨h0, c, t, fr, h1, h2, h3⟩
  · exact .inl h
  · exact .inr ⟨h0, c, t, fr, e.trans h1, h2, h3⟩
 | mp es clk sy => obtain ⟨es', h1, h2⟩ := h; exact ⟨es', e.trans h1, h2⟩
 | lp L => obtain ⟨L', h1, h2⟩ := h; exact ⟨L', e.trans h1, h2⟩
 | dead => trivial

theorem ObjR.lt {σ : Sig} {p : Plc} {w : World} {b : ABlk} (h : ObjR σ p w b) (hb : b.void = false) : p.blk < w.heap.size := by
 have key : ∀ o, w.heap[p.blk]? = some o → p.blk < w.heap.size := fun o h => (Array.getElem?_eq_some_iff.1 h).1
 cases b with
 | cells vs esz md par =>
  rcases h with ⟨rfl, _⟩ | ⟨_, c, t, fr, h1, _⟩
  · simp [ABlk.void] at hb
  · exact key _ h1
 | mp es clk sy => obtain ⟨_, h1, _⟩ := h; exact key _ h1
 | lp L => obtain ⟨_, h1, _⟩ := h; exact key _ h1
 | dead => simp [ABlk.void] at hb

theorem ObjR.of_void {σ : Sig} {p : Plc} {w w' : World} {b : ABlk} (h : ObjR σ p w b) (hb : b.void = true) : ObjR σ p w' b := by
 unfold ABlk.void at hb
 split at hb
 · trivial
 · rcases h with h | ⟨h0, _⟩
   · exact .inl h
   · exact absurd rfl h0
 · simp at hb

theorem ObjR.keep {σ : Sig} {p : Plc} {w w' : World} {b : ABlk} (h : ObjR σ p w b) (e : b.void = false → w'.heap[p.blk]? = w.heap[p.blk]?) : ObjR σ p w' b := by
 cases hb : b.void with
 | true => exact h.of_void hb
 | false => exact h.world (e hb)

def ABlk.mine : ABlk → Bool
 | .cells [] _ _ _ => false
 | .cells _ _ .far _ => false
 | .dead => false
 | _ => true

def ABlk.par : ABlk → Option Nat
 | .cells _ _ _ p => p
 | _ => none

def ABlk.isRo : ABlk → Bool
 | .cells _ _ .ro _ => true
 | _ => false

def ABlk.isFar : ABlk → Bool
 | .cells _ _ .far _ => true
 | _ => false

theorem ABlk.mine_ne {b : ABlk} (h : b.mine = true) : b.void = false := by
 unfold ABlk.void
 split
 · simp [ABlk.mine] at h
 · simp [ABlk.mine] at h
 · rfl

theorem zj9 {v : AV} {vs : List AV} {e : Nat} {md : Md} {par : Option Nat} : (ABlk.cells (v :: vs) e md par).mine = decide (md ≠ .far) := by
 cases md <;> rfl
theorem zbp {vs : List AV} {e : Nat} {md : Md} {par : Option Nat} (h : (ABlk.cells vs e md par).mine = true) : vs ≠ [] ∧ md ≠ .far := by
 cases vs with
 | nil => simp [ABlk.mine] at h
 | cons v vs => rw [zj9] at h; simpa using h
theorem zen {vs : List AV} {e : Nat} {md : Md} {par : Option Nat} (h : vs ≠ []) (hm : md ≠ .far) : (ABlk.cells vs e md par).mine = true := by
 cases vs with
 | nil => exact absurd rfl h
 | cons v vs => rw [zj9]; simpa using hm

structure Rel (W0 : World) (σ : Sig) (h : zaa) (w : World) : Prop where
 len : σ.length = h.length
 obj : ∀ {i : Nat} {b : ABlk} {p : Plc}, h[i]? = some b → σ[i]? = some p → ObjR σ p w b
 far : ∀ {i : Nat} {vs : List AV} {e : Nat} {par : Option Nat} {p : Plc}, h[i]? = some (.cells vs e .far par) → σ[i]? = some p → vs ≠ [] → p.blk < W0.heap.size
 own : ∀ {i : Nat} {b : ABlk} {p : Plc}, h[i]? = some b → σ[i]? = some p → b.mine = true → W0.heap.size ≤ p.blk
 sep : ∀ {i j : Nat} {b b' : ABlk} {p q : Plc}, i ≠ j → h[i]? = some b → h[j]? = some b' → σ[i]? = some p → σ[j]? = some q → b.mine = true → b'.mine = true → p.blk = q.blk →
  (b.par = some j ∧ b'.isRo = true) ∨ (b'.par = some i ∧ b.isRo = true)
 below : RowKit.Below W0.heap.size W0 w

def Own (h : zaa) (σ : Sig) (b : Nat) : Prop := ∃ (i : Nat) (blk : ABlk) (p : Plc), h[i]? = some blk ∧ σ[i]? = some p ∧ blk.mine = true ∧ p.blk = b

structure Stp (σ : Sig) (h : zaa) (w : World) (σ' : Sig) (h' : zaa) (w' : World) : Prop where
 ext : ∃ τ, σ' = σ ++ τ
 own : ∀ b, Own h' σ' b → Own h σ b ∨ w.heap.size ≤ b
 same : ∀ b, b < w.heap.size → ¬ Own h σ b → w'.heap[b]? = w.heap[b]?
 size : w.heap.size ≤ w'.heap.size

theorem Stp.refl (σ : Sig) (h : zaa) (w : World) : Stp σ h w σ h w := ⟨⟨[], by simp⟩, fun _ h => .inl h, fun _ _ _ => rfl, Nat.le_refl _⟩

theorem Stp.trans {σ σ' σ'' : Sig} {h h' h'' : zaa} {w w' w'' : World} (a : Stp σ h w σ' h' w') (b : Stp σ' h' w' σ'' h'' w'') : Stp σ h w σ'' h'' w'' := by
 obtain ⟨τ, rfl⟩ := a.ext
 obtain ⟨τ', rfl⟩ := b.ext
 refine ⟨⟨τ ++ τ', by simp⟩, fun x hx => ?_, fun x hx hn => ?_, Nat.le_trans a.size b.size⟩
 · rcases b.own x hx with h1 | h1
   · exact a.own x h1
   · exact .inr (Nat.le_trans a.size h1)
 · rw [b.same x (Nat.lt_of_lt_of_le hx a.size) fun h1 => ?_, a.same x hx hn]
   rcases a.own x h1 with h2 | h2
   · exact hn h2
   · omega

theorem Stp.vr {σ σ' : Sig} {h h' : zaa} {w w' : World} (a : Stp σ h w σ' h' w') {x : AV} {v : Value} (hv : VR σ x v) : VR σ' x v := by
 obtain ⟨τ, rfl⟩ := a.ext; exact hv.grow τ
theorem Stp.vrs {σ σ' : Sig} {h h' : zaa} {w w' : World} (a : Stp σ h w σ' h' w') {x : List AV} {v : List Value} (hv : VRs σ x v) : VRs σ' x v := by
 obtain ⟨τ, rfl⟩ := a.ext; exact hv.grow τ

variable {W0 : World} {σ : Sig} {h : zaa} {w : World}

theorem Rel.get (R : Rel W0 σ h w) {i : Nat} {b : ABlk} (hb : h[i]? = some b) : ∃ p, σ[i]? = some p ∧ ObjR σ p w b := by
 have hi := (List.getElem?_eq_some_iff.1 hb).1
 have hp : σ[i]? = some (σ[i]'(by rw [R.len]; exact hi)) := List.getElem?_eq_getElem _
 exact ⟨_, hp, R.obj hb hp⟩

theorem Rel.heapEq (R : Rel W0 σ h w) {w' : World} (e : w'.heap = w.heap) (b : RowKit.Below W0.heap.size W0 w') : Rel W0 σ h w' :=
 ⟨R.len, fun h1 h2 => (R.obj h1 h2).world (by rw [e]), R.far, R.own, R.sep, b⟩

theorem Rel.drew (R : Rel W0 σ h w) : Rel W0 σ h w.drew := R.heapEq rfl R.below.drew
theorem Stp.drew (σ : Sig) (h : zaa) (w : World) : Stp σ h w σ h w.drew := ⟨⟨[], by simp⟩, fun _ h => .inl h, fun _ _ _ => rfl, Nat.le_refl _⟩

theorem Rel.push (R : Rel W0 σ h w) (o : Obj) (b : ABlk) (sp : Nat) (hm : b.isFar = false) (ho : ObjR (σ ++ [⟨w.heap.size, 0, sp⟩]) ⟨w.heap.size, 0, sp⟩ (w.alloc o) b) :
 Rel W0 (σ ++ [⟨w.heap.size, 0, sp⟩]) (h ++ [b]) (w.alloc o) ∧ Stp σ h w (σ ++ [⟨w.heap.size, 0, sp⟩]) (h ++ [b]) (w.alloc o) := by
 have hold : ∀ k, k < w.heap.size → (w.alloc o).heap[k]? = w.heap[k]? := fun k hk => RowKit.Below.heap_alloc w o k hk
 have key : ∀ {i : Nat} {b' : ABlk} {p : Plc}, (h ++ [b])[i]? = some b' → (σ ++ [⟨w.heap.size, 0, sp⟩])[i]? = some p →
  (h[i]? = some b' ∧ σ[i]? = some p) ∨ (i = h.length ∧ b' = b ∧ p = ⟨w.heap.size, 0, sp⟩) := by
  intro i b' p h1 h2
  rcases Nat.lt_or_ge i h.length with hi | hi
  · rw [List.getElem?_append_left hi] at h1
    rw [List.getElem?_append_left (by rw [R.len]; exact hi)] at h2
    exact .inl ⟨h1, h2⟩
  · have hi' := (List.getElem?_eq_some_iff.1 h1).1
    simp at hi'
    have e : i = h.length := by omega
    subst e
    rw [List.getElem?_append_right (by simp)] at h1
    rw [List.getElem?_append_right (by rw [R.len]; simp)] at h2
    simp [R.len] at h1 h2
    exact .inr ⟨rfl, h1.symm, h2.symm⟩
 have hlt : ∀ {i : Nat} {b' : ABlk} {p : Plc}, h[i]? = some b' → σ[i]? = some p → b'.void = false → p.blk < w.heap.size := fun h1 h2 h3 => (R.obj h1 h2).lt h3
 refine ⟨⟨by simp [R.len], ?_, ?_, ?_, ?_, R.below.alloc R.below.size o⟩, ⟨⟨_, rfl⟩, ?_, fun k hk _ => hold k hk, by simp⟩⟩
 · intro i b' p h1 h2
   rcases key h1 h2 with ⟨h1, h2⟩ | ⟨rfl, rfl, rfl⟩
   · exact ((R.obj h1 h2).grow _).keep fun hd => hold _ (hlt h1 h2 hd)
   · exact ho
 · intro i vs e par p h1 h2
   rcases key h1 h2 with ⟨h1, h2⟩ | ⟨rfl, rfl, rfl⟩
   · exact R.far h1 h2
   · simp [ABlk.isFar] at hm
 · intro i b' p h1 h2 hb
   rcases key h1 h2 with ⟨h1, h2⟩ | ⟨rfl, rfl, rfl⟩
   · exact R.own h1 h2 hb
   · exact R.below.size
 · intro i j b1 b2 p q hij h1 h2 h3 h4 hb1 hb2 hpq
   rcases key h1 h3 with ⟨k1, k3⟩ | ⟨e1, e2, e3⟩
   · rcases key h2 h4 with ⟨k2, k4⟩ | ⟨f1, f2, f3⟩
     · exact R.sep hij k1 k2 k3 k4 hb1 hb2 hpq
     · have := hlt k1 k3 (ABlk.mine_ne hb1); rw [f3] at hpq; simp at hpq; omega
   · rcases key h2 h4 with ⟨k2, k4⟩ | ⟨f1, f2, f3⟩
     · have := hlt k2 k4 (ABlk.mine_ne hb2); rw [e3] at hpq; simp at hpq; omega
     · exact absurd (e1.trans f1.symm) hij
 · rintro x ⟨i, b', p, h1, h2, h3, rfl⟩
   rcases key h1 h2 with ⟨h1, h2⟩ | ⟨rfl, rfl, rfl⟩
   · exact .inl ⟨i, b', p, h1, h2, h3, rfl⟩
   · exact .inr (Nat.le_refl _)

end Go.Abs

end

section
/- Reading and writing cells: the abstract heap and the world step alike. -/
set_option autoImplicit false
set_option linter.unusedVariables false
set_option linter.unusedSimpArgs false
namespace Go.Abs

theorem zde (b o n : Nat) : (⟨b, o, none⟩ : Addr).add n = ⟨b, o + n, none⟩ := by
 unfold Addr.add; split <;> simp_all

def ziw : List Value → Nat → List Value → List Value
 | vs, _, [] => vs
 | vs, o, x :: xs => ziw (vs.set o x) (o + 1) xs

theorem zdp : ∀ (xs vs : List Value) (o : Nat), (ziw vs o xs).length = vs.length
 | [], _, _ => rfl
 | x :: xs, vs, o => by rw [ziw, zdp xs]; simp

theorem zcr : ∀ (xs vs : List AV) (o : Nat), (zae vs o xs).length = vs.length
 | [], _, _ => rfl
 | x :: xs, vs, o => by rw [zae, zcr xs]; simp

theorem VRs.put {σ : Sig} : ∀ {xs : List AV} {ys : List Value}, VRs σ xs ys → ∀ {vs : List AV} {ws : List Value} (o : Nat), VRs σ vs ws → VRs σ (zae vs o xs) (ziw ws o ys)
 | _, _, .nil, _, _, _, h => h
 | _, _, .cons _ _ _ _ hx t, _, _, o, h => VRs.put t (o + 1) (h.set o hx)

theorem zeR : ∀ (ys C : List Value) (off o n : Nat), ((ziw C (off + o) ys).drop off).take n = ziw ((C.drop off).take n) o ys
 | [], _, _, _, _ => rfl
 | y :: ys, C, off, o, n => by
  rw [ziw, ziw, show off + o + 1 = off + (o + 1) by omega, zeR ys, List.drop_set, if_neg (by omega), List.take_set]
  simp

theorem zhL {w : World} {b o : Nat} {v : Value} {c : Array Value} {t : TypeId} {fr : Nat × Nat} (h : w.heap[b]? = some (.cells c t fr)) :
 (w.setCell ⟨b, o, none⟩ v).heap[b]? = some (.cells (c.setIfInBounds o v) t fr) := by
 simp [World.setCell, Array.getElem?_modify, h]

theorem zc5 : ∀ (ys : List Value) (w : World) (b o : Nat) (c : Array Value) (t : TypeId) (fr : Nat × Nat), w.heap[b]? = some (.cells c t fr) →
 ∃ c' : Array Value, (w.setCells b o ys).heap[b]? = some (.cells c' t fr) ∧ c'.toList = ziw c.toList o ys
 | [], w, b, o, c, t, fr, h => ⟨c, h, rfl⟩
 | y :: ys, w, b, o, c, t, fr, h => by
  obtain ⟨c', h1, h2⟩ := zc5 ys _ b (o + 1) _ t fr (zhL (o := o) (v := y) h)
  exact ⟨c', h1, by rw [h2, ziw]; simp⟩

theorem zcS : ∀ (ys : List Value) (w : World) (b o k : Nat), k ≠ b → (w.setCells b o ys).heap[k]? = w.heap[k]?
 | [], _, _, _, _, _ => rfl
 | y :: ys, w, b, o, k, h => by rw [World.setCells, zcS ys _ b _ k h, RowKit.Below.heap_setCell _ _ _ _ h]

theorem zfb : ∀ (ys : List Value) (w : World) (b o : Nat), (w.setCells b o ys).heap.size = w.heap.size
 | [], _, _, _ => rfl
 | y :: ys, w, b, o => by rw [World.setCells, zfb ys]; simp

theorem Below.setCells {B : Nat} {a : World} : ∀ (ys : List Value) {w : World} (h : RowKit.Below B a w) {b : Nat} (hb : B ≤ b) (o : Nat), RowKit.Below B a (w.setCells b o ys)
 | [], _, h, _, _, _ => h
 | y :: ys, _, h, _, hb, o => Below.setCells ys (h.setCell (p := ⟨_, o, none⟩) hb y) hb (o + 1)

theorem VR.oneCell {σ : Sig} {a : AV} {v : Value} (h : VR σ a v) (hc : a.isCell = true) : v.oneCell' = true := by
 cases h <;> first | rfl | (simp [AV.isCell] at hc)

theorem VRs.oneCells {σ : Sig} {l : List AV} {m : List Value} (h : VRs σ l m) (hc : l.all AV.isCell = true) : ∀ v ∈ m, v.oneCell' = true := by
 intro v hv
 obtain ⟨i, hi, rfl⟩ := List.mem_iff_getElem.1 hv
 have hl : i < l.length := by rw [h.length]; exact hi
 obtain ⟨v', h1, h2⟩ := h.get (List.getElem?_eq_getElem hl)
 rw [List.getElem?_eq_getElem hi] at h1
 simp at h1; subst h1
 exact h2.oneCell (List.all_eq_true.1 hc _ (List.getElem_mem hl))

variable {P : Program} {W0 : World} {σ : Sig} {h : zaa} {w : World}

theorem zmg {h : zaa} {par : Option Nat} {j : Nat} (hj : par ≠ some j) : (zc4 h par)[j]? = h[j]? := by
 cases par with
 | none => rfl
 | some p => rw [zc4, List.getElem?_set_ne (by simpa using hj)]

theorem zbw (h : zaa) (par : Option Nat) : (zc4 h par).length = h.length := by cases par <;> simp [zc4]

theorem zg7 {h : zaa} {par : Option Nat} {j : Nat} {b : ABlk} (hb : (zc4 h par)[j]? = some b) : b = .dead ∨ (h[j]? = some b ∧ par ≠ some j) := by
 cases par with
 | none => exact .inr ⟨hb, by simp⟩
 | some p =>
  rw [zc4, List.getElem?_set] at hb
  by_cases e : p = j
  · subst e
    simp only [if_true] at hb
    split at hb
    · simp at hb; exact .inl hb.symm
    · simp at hb
  · rw [if_neg e] at hb; exact .inr ⟨hb, by simpa using e⟩

theorem Rel.modify (R : Rel W0 σ h w) {i : Nat} {b b' : ABlk} {p : Plc} {w' : World} (hb : h[i]? = some b) (hp : σ[i]? = some p) (hm : b.mine = true) (hro : b.isRo = false) (hm' : b'.isFar = false)
 (hw : ∀ k, k ≠ p.blk → w'.heap[k]? = w.heap[k]?) (hs : w'.heap.size = w.heap.size) (hbl : RowKit.Below W0.heap.size W0 w') (ho : ObjR σ p w' b') :
 Rel W0 σ ((zc4 h b.par).set i b') w' ∧ Stp σ h w σ ((zc4 h b.par).set i b') w' := by
 have hi : i < h.length := (List.getElem?_eq_some_iff.1 hb).1
 have key : ∀ {j : Nat} {c : ABlk}, ((zc4 h b.par).set i b')[j]? = some c → (j = i ∧ c = b') ∨ (j ≠ i ∧ (c = .dead ∨ (h[j]? = some c ∧ b.par ≠ some j))) := by
  intro j c hc
  rw [List.getElem?_set] at hc
  by_cases e : i = j
  · subst e
    rw [if_pos rfl, if_pos (by rw [zbw]; exact hi)] at hc
    exact .inl ⟨rfl, by simpa using hc.symm⟩
  · rw [if_neg e] at hc
    exact .inr ⟨fun x => e x.symm, zg7 hc⟩
 have zer : ∀ {j : Nat} {c : ABlk} {q : Plc}, j ≠ i → h[j]? = some c → σ[j]? = some q → c.void = false → b.par ≠ some j → q.blk ≠ p.blk := by
  intro j c q hj hc hq hd hpar e
  by_cases hmc : c.mine = true
  · rcases R.sep (Ne.symm hj) hb hc hp hq hm hmc e.symm with ⟨h1, _⟩ | ⟨_, h1⟩
    · exact hpar h1
    · rw [hro] at h1; cases h1
  · have : ∃ v vs e par, c = .cells (v :: vs) e .far par := by
      cases c with
      | cells vs e md par =>
       cases vs with
       | nil => cases md <;> simp [ABlk.mine, ABlk.void] at hmc hd
       | cons v vs => cases md <;> first | exact ⟨_, _, _, _, rfl⟩ | simp [ABlk.mine] at hmc
      | mp => simp [ABlk.mine] at hmc
      | lp => simp [ABlk.mine] at hmc
      | dead => simp [ABlk.void] at hd
    obtain ⟨v, vs, e', par, rfl⟩ := this
    have h1 := R.far hc hq (by simp)
    have h2 := R.own hb hp hm
    omega
 refine ⟨⟨by simp [zbw, R.len], ?_, ?_, ?_, ?_, hbl⟩, ⟨⟨[], by simp⟩, ?_, fun k hk hn => hw k fun e => hn ⟨i, b, p, hb, hp, hm, e.symm⟩, by omega⟩⟩
 · intro j c q hc hq
   rcases key hc with ⟨rfl, rfl⟩ | ⟨hj, rfl | ⟨hc', hpar⟩⟩
   · rw [hp] at hq; simp at hq; subst hq; exact ho
   · trivial
   · exact (R.obj hc' hq).keep fun hd => hw _ (zer hj hc' hq hd hpar)
 · intro j vs e par q hc hq
   rcases key hc with ⟨rfl, e1⟩ | ⟨hj, e1 | ⟨hc', hpar⟩⟩
   · rw [← e1] at hm'; simp [ABlk.isFar] at hm'
   · cases e1
   · exact R.far hc' hq
 · intro j c q hc hq hmc
   rcases key hc with ⟨rfl, e1⟩ | ⟨hj, e1 | ⟨hc', hpar⟩⟩
   · rw [hp] at hq; simp at hq; subst hq; exact R.own hb hp hm
   · subst e1; simp [ABlk.mine] at hmc
   · exact R.own hc' hq hmc
 · intro j k c c' q q' hjk hc hc' hq hq' hmc hmc' e
   rcases key hc with ⟨e0, e1⟩ | ⟨hj, e1 | ⟨k1, hpar⟩⟩
   · rcases key hc' with ⟨f0, f1⟩ | ⟨hk, f1 | ⟨k2, hpar'⟩⟩
     · exact absurd (e0.trans f0.symm) hjk
     · subst f1; simp [ABlk.mine] at hmc'
     · subst e0
       rw [hp] at hq; simp at hq; subst hq
       exact absurd e.symm (zer hk k2 hq' (ABlk.mine_ne hmc') hpar')
   · subst e1; simp [ABlk.mine] at hmc
   · rcases key hc' with ⟨f0, f1⟩ | ⟨hk, f1 | ⟨k2, hpar'⟩⟩
     · subst f0
       rw [hp] at hq'; simp at hq'; subst hq'
       exact absurd e (zer hj k1 hq (ABlk.mine_ne hmc) hpar)
     · subst f1; simp [ABlk.mine] at hmc'
     · exact R.sep hjk k1 k2 hq hq' hmc hmc' e
 · rintro x ⟨j, c, q, hc, hq, hmc, rfl⟩
   rcases key hc with ⟨rfl, e1⟩ | ⟨hj, e1 | ⟨hc', hpar⟩⟩
   · rw [hp] at hq; simp at hq; subst hq; exact .inl ⟨j, b, p, hb, hp, hm, rfl⟩
   · subst e1; simp [ABlk.mine] at hmc
   · exact .inl ⟨j, c, q, hc', hq, hmc, rfl⟩

theorem Rel.cellAt (R : Rel W0 σ h w) {i o : Nat} {a : AV} {p : Plc} (hc : cellAt h i o = some a) (hp : σ[i]? = some p) :
 ∃ v, w.cell? ⟨p.blk, p.off + o, none⟩ = some v ∧ VR σ a v := by
 unfold Abs.cellAt at hc
 split at hc
 · rename_i vs esz md par hb
   rcases R.obj hb hp with ⟨rfl, _⟩ | ⟨_, c, t, fr, h1, h2, _⟩
   · simp at hc
   obtain ⟨v, h3, h4⟩ := h2.get hc
   refine ⟨v, ?_, h4⟩
   rw [List.getElem?_take] at h3
   split at h3
   · rw [List.getElem?_drop] at h3
     simp [World.cell?, h1]
     simpa using h3
   · simp at h3
 · simp at hc

theorem Rel.cellsAt (R : Rel W0 σ h w) {i o n : Nat} {cs : List AV} {p : Plc} (hc : cellsAt h i o n = some cs) (hp : σ[i]? = some p) :
 ∃ vs : List Value, vs.length = n ∧ VRs σ cs vs ∧ (∀ j v, vs[j]? = some v → w.cell? ⟨p.blk, p.off + o + j, none⟩ = some v) := by
 unfold Abs.cellsAt at hc
 split at hc
 · rename_i vs esz md par hb
   split at hc
   · rename_i hle
     simp at hc
     subst hc
     rcases R.obj hb hp with ⟨rfl, _⟩ | ⟨_, c, t, fr, h1, h2, _⟩
     · have : n = 0 := by simp at hle; omega
       subst this
       exact ⟨[], rfl, by simpa using VRs.nil, by simp⟩
     have hl := h2.length
     have hlen : ((((c.toList.drop p.off).take vs.length).drop o).take n).length = n := by
      have := congrArg (fun x => x - o) hl.symm
      simp only [List.length_take, List.length_drop] at *
      omega
     refine ⟨(((c.toList.drop p.off).take vs.length).drop o).take n, hlen, (h2.drop o).take n, fun j v hj => ?_⟩
     rw [List.getElem?_take] at hj
     split at hj
     · rw [List.getElem?_drop, List.getElem?_take] at hj
       split at hj
       · rw [List.getElem?_drop] at hj
         simp [World.cell?, h1, Nat.add_assoc]
         simpa using hj
       · simp at hj
     · simp at hj
   · simp at hc
 · simp at hc

theorem Rel.loadCells (R : Rel W0 σ h w) {i o n : Nat} {cs : List AV} {p : Plc} (hc : Abs.cellsAt h i o n = some cs) (hp : σ[i]? = some p) :
 ∃ vs : List Value, (loadCells ⟨p.blk, p.off + o, none⟩ n).run P w = .ok vs.toArray w ∧ VRs σ cs vs ∧ vs.length = n := by
 obtain ⟨vs, h1, h2, h3⟩ := R.cellsAt hc hp
 refine ⟨vs, ?_, h2, h1⟩
 have := run_loadCells_list (P := P) w ⟨p.blk, p.off + o, none⟩ vs (fun j v hj => by rw [zde]; exact h3 j v hj)
 rwa [h1] at this

theorem Rel.putAt (R : Rel W0 σ h w) {i o : Nat} {xs : List AV} {ys : List Value} {h' : zaa} {p : Plc} (hput : putAt h i o xs = some h') (hx : xs ≠ []) (hp : σ[i]? = some p) (hv : VRs σ xs ys) :
 ∃ w', (storeCells ⟨p.blk, p.off + o, none⟩ ys).run P w = .ok () w' ∧ Rel W0 σ h' w' ∧ Stp σ h w σ h' w' := by
 unfold Abs.putAt at hput
 split at hput
 · rename_i vs esz par hb
   split at hput
   · rename_i hc
     obtain ⟨hle, hone⟩ := hc
     simp at hput
     subst hput
     rcases R.obj hb hp with ⟨rfl, _⟩ | ⟨hne, c, t, fr, h1, h2, h3⟩
     · cases xs with
       | nil => exact absurd rfl hx
       | cons x xs => simp at hle
     obtain ⟨hfr, hsz⟩ := h3 rfl
     have hl := h2.length
     have hyl := hv.length
     have hcs : p.off + vs.length ≤ c.size := by omega
     have hcell : ∀ j, j < ys.length → (w.cell? ⟨p.blk, p.off + o + 0 + j, none⟩).isSome = true := by
      intro j hj
      have : p.off + o + 0 + j < c.size := by omega
      simp [World.cell?, h1]; omega
     have hnf : ∀ j, j < ys.length → w.frozen? ⟨p.blk, p.off + o + 0 + j, none⟩ = false := by
      intro j hj
      have := hfr (p.off + o + 0 + j) (by omega) (by omega)
      simp only [World.frozen?, h1]
      simp only [Bool.and_eq_false_iff, decide_eq_false_iff_not]
      by_cases hx : fr.1 ≤ p.off + o + 0 + j
      · exact .inr fun hy => this ⟨hx, hy⟩
      · exact .inl hx
     have hst := run_storeCells_cells (P := P) p.blk (p.off + o) ys 0 w hcell hnf (hv.oneCells hone)
     simp only [Nat.add_zero] at hst
     refine ⟨w.setCells p.blk (p.off + o) ys, hst, ?_⟩
     have ho : ObjR σ p (w.setCells p.blk (p.off + o) ys) (.cells (zae vs o xs) esz .own none) := by
      obtain ⟨c', e1, e2⟩ := zc5 ys w p.blk (p.off + o) c t fr h1
      have hsz' : c'.size = c.size := by rw [← Array.length_toList, e2, zdp, Array.length_toList]
      refine .inr ⟨fun h0 => hne (List.eq_nil_of_length_eq_zero (by have := congrArg List.length h0; rw [zcr] at this; simpa using this)), c', t, fr, e1, ?_, fun _ => ⟨fun j h1 h2 => hfr j h1 (by omega), by rw [zcr, hsz']; exact hsz⟩⟩
      rw [e2, zcr, zeR]
      exact hv.put o h2
     have := R.modify (b' := .cells (zae vs o xs) esz .own none) hb hp (zen hne (by simp)) rfl rfl (fun k hk => zcS ys w p.blk (p.off + o) k hk) (zfb ys w p.blk (p.off + o))
      (Below.setCells ys R.below (R.own hb hp (zen hne (by simp))) _) ho
     exact this
   · simp at hput
 · simp at hput

end Go.Abs

end

section
/- Operation by operation: what the interpreter tells is what the model's operation yields. First part: types, loads, stores, fields, indices, slices. -/
set_option autoImplicit false
set_option linter.unusedVariables false
set_option linter.unusedSimpArgs false
namespace Go.Abs
variable {P : Program} {W0 : World} {σ : Sig} {h : zaa} {w : World}

theorem zeX (σ : Sig) (v : Value) : VR σ (zwu v) v := by
 cases v with
 | pointer a => cases a with
  | none => exact .ptr0
  | some a => exact .any _
 | slice a l c => cases a with
  | none =>
   unfold zwu
   split
   all_goals first | exact .any _ | skip
   all_goals rename_i heq; first | (cases heq; exact .sl0 true) | cases heq
  | some a => exact .any _
 | map r => cases r with
  | none => exact .map0
  | some a => exact .any _
 | func fn first captured =>
  cases fn with
  | func f =>
   simp only [zwu]
   split
   · rename_i hc
     simp only [Bool.and_eq_true, Array.isEmpty_iff] at hc
     obtain ⟨rfl, rfl⟩ := hc
     exact .fn f [] [] .nil
   · exact .any _
  | _ => exact .any _
 | bool b => exact .bool b
 | int k n => exact .int k n
 | string s => exact .str s
 | nilFunc => exact .nilFn
 | _ => exact .any _

theorem zq6 (σ : Sig) (v : Value) : VR σ (ofV v) v := by
 cases v with
 | agg cs =>
  have := VRs.map_of (σ := σ) zwu id cs.toList fun x _ => zeX σ x
  simp only [List.map_id_fun, id] at this
  have h := VR.agg _ _ this
  simpa [ofV] using h
 | tuple cs =>
  have := VRs.map_of (σ := σ) zwu id cs.toList fun x _ => zeX σ x
  simp only [List.map_id_fun, id] at this
  have h := VR.tup _ _ this
  simpa [ofV] using h
 | bool b => exact zeX σ (.bool b)
 | int k n => exact zeX σ (.int k n)
 | string s => exact zeX σ (.string s)
 | pointer a => exact zeX σ (.pointer a)
 | slice a l c => exact zeX σ (.slice a l c)
 | map r => exact zeX σ (.map r)
 | func f a b => exact zeX σ (.func f a b)
 | nilFunc => exact .nilFn
 | _ => exact .any _

theorem zcN {a : AV} {v : Value} {xs : List AV} (hv : VR σ a v) (hc : a.cells = some xs) : VRs σ xs v.cells.toList := by
 cases hv with
 | any => simp [AV.cells] at hc
 | tup => simp [AV.cells] at hc
 | agg l cs h => simp [AV.cells] at hc; subst hc; simpa [Value.cells] using h
 | bool b => simp [AV.cells] at hc; subst hc; exact .cons _ _ _ _ (.bool b) .nil
 | int k n => simp [AV.cells] at hc; subst hc; exact .cons _ _ _ _ (.int k n) .nil
 | str s => simp [AV.cells] at hc; subst hc; exact .cons _ _ _ _ (.str s) .nil
 | ptr0 => simp [AV.cells] at hc; subst hc; exact .cons _ _ _ _ .ptr0 .nil
 | ptr i o p h => simp [AV.cells] at hc; subst hc; exact .cons _ _ _ _ (.ptr i o p h) .nil
 | sl0 e => simp [AV.cells] at hc; subst hc; exact .cons _ _ _ _ (.sl0 e) .nil
 | sl i o l c e p a c' h hl hcc ha => simp [AV.cells] at hc; subst hc; exact .cons _ _ _ _ (.sl i o l c e p a c' h hl hcc ha) .nil
 | sln i o p h hcc => simp [AV.cells] at hc; subst hc; exact .cons _ _ _ _ (.sln i o p h hcc) .nil
 | map0 => simp [AV.cells] at hc; subst hc; exact .cons _ _ _ _ .map0 .nil
 | map i p h => simp [AV.cells] at hc; subst hc; exact .cons _ _ _ _ (.map i p h) .nil
 | fn f cap cap' h => simp [AV.cells] at hc; subst hc; exact .cons _ _ _ _ (.fn f cap cap' h) .nil
 | yld i p h => simp [AV.cells] at hc; subst hc; exact .cons _ _ _ _ (.yld i p h) .nil
 | nilFn => simp [AV.cells] at hc; subst hc; exact .cons _ _ _ _ .nilFn .nil

theorem zaL {t : TypeId} {n : Nat} (hs : zbE P t = some n) (w : World) : (sizeOf t).run P w = .ok n w := by
 unfold zbE at hs
 simp only [Option.map_eq_some_iff] at hs
 obtain ⟨i, hi, rfl⟩ := hs
 simp [sizeOf, typeInfo, hi]

theorem zgm {t : TypeId} {b : Bool} (hs : zkk P t = some b) (w : World) : (isAgg t).run P w = .ok b w := by
 unfold zkk at hs
 split at hs
 · rename_i fs hu; simp at hs; subst hs; simp [isAgg, run_underlying hu]
 · rename_i n e hu; simp at hs; subst hs; simp [isAgg, run_underlying hu]
 · rename_i d h1 h2 hu
   simp at hs; subst hs
   cases d with
   | struct fs => exact absurd rfl (h1 _)
   | array n e => exact absurd rfl (h2 _ _)
   | _ => simp [isAgg, run_underlying hu]
 · simp at hs

theorem zcI {t : TypeId} {z : AV} (hz : ze7 P t = some z) (σ : Sig) (w : World) : ∃ v, (zeroValue t).run P w = .ok v w ∧ VR σ z v := by
 unfold ze7 at hz
 simp only [Option.map_eq_some_iff, Option.bind_eq_some_iff] at hz
 obtain ⟨v, ⟨i, hi, hv⟩, rfl⟩ := hz
 exact ⟨v, by simp [zeroValue, typeInfo, hi, hv], zq6 σ v⟩

theorem zqC {t : TypeId} {n : Nat} (hs : zg2 P t = some n) (w : World) : ∃ i, (typeInfo t).run P w = .ok i w ∧ i.bytes = n := by
 unfold zg2 at hs
 simp only [Option.map_eq_some_iff] at hs
 obtain ⟨i, hi, rfl⟩ := hs
 exact ⟨i, by simp [typeInfo, hi], rfl⟩

theorem zcD {t e : TypeId} (hs : zcJ P t = some e) : P.underlying t = some (.slice e) := by
 unfold zcJ at hs
 split at hs
 · rename_i e' hu; simp at hs; subst hs; exact hu
 · simp at hs

theorem zf9 {d : Option TypeDesc} {x : Option AV} {v : AV} (hv : zpy d x = some v) : x = some v := by
 unfold zpy at hv
 split at hv
 · split at hv
   · rename_i k hk
     unfold zaI at hk
     split at hk
     · simp at hk; subst hk; simp [zad] at hv; rw [hv]
     · simp at hk
   · simp at hv
 · split at hv
   · rename_i hk
     unfold zna at hk
     split at hk
     · simp [zbZ] at hv; rw [hv]
     · simp at hk
   · simp at hv
 · split at hv
   · rename_i hk
     unfold zrJ at hk
     split at hk
     · simp [zBp] at hv; rw [hv]
     · simp at hk
   · simp at hv
 · exact hv

theorem zoy (R : Rel W0 σ h w) {t : TypeId} {a v : AV} {a' : Value} (ha : VR σ a a') (hl : ziV P h t a = some v) :
 ∃ v', (Instr.loadAt t a').run P w = .ok v' w ∧ VR σ v v' := by
 unfold ziV at hl
 split at hl
 · rename_i i o
   cases ha with
   | ptr _ _ p hp =>
   split at hl
   · rename_i n hag hsz
     simp only [Option.map_eq_some_iff] at hl
     obtain ⟨cs, hc, rfl⟩ := hl
     obtain ⟨vs, h1, h2, _⟩ := R.loadCells (P := P) hc hp
     exact ⟨_, by simp [Instr.loadAt, Instr.sureAddr, loadVar, zgm hag, zaL hsz, h1], .agg _ _ h2⟩
   · rename_i hag
     obtain ⟨v', h1, h2⟩ := R.cellAt (zf9 hl) hp
     exact ⟨v', by simp [Instr.loadAt, Instr.sureAddr, loadVar, zgm hag, h1], h2⟩
   · simp at hl
 · simp at hl

theorem zq8 (R : Rel W0 σ h w) {t : TypeId} {a v : AV} {a' v' : Value} {h' : zaa} (ha : VR σ a a') (hv : VR σ v v') (hs : zmH P h t a v = some h') :
 ∃ w', (Instr.storeAt t a' v').run P w = .ok () w' ∧ Rel W0 σ h' w' ∧ Stp σ h w σ h' w' := by
 unfold zmH at hs
 split at hs
 · rename_i i o
   cases ha with
   | ptr _ _ p hp =>
   split at hs
   · rename_i xs n hcx hsz
     split at hs
     · rename_i hn
       have hvs := zcN hv hcx
       obtain ⟨w', h1, h2, h3⟩ := R.putAt (P := P) hs (by rintro rfl; simp at hn) hp hvs
       have hlen : v'.cells.size = n + 1 := by rw [← Array.length_toList, ← hvs.length, hn]
       exact ⟨w', by simp [Instr.storeAt, Instr.sureAddr, storeVar, zaL hsz, hlen, h1], h2, h3⟩
     · simp at hs
   · simp at hs
 · simp at hs

theorem zeg {t : TypeId} {l : List AV} {m : List Value} {off : Nat} {v : AV} (hl : VRs σ l m) (hp : zer P t l off = some v) (w : World) :
 ∃ v', (part t m.toArray off).run P w = .ok v' w ∧ VR σ v v' := by
 unfold zer at hp
 split at hp
 · rename_i n hag hsz
   split at hp
   · simp at hp; subst hp
     refine ⟨.agg ((m.drop off).take n).toArray, ?_, .agg _ _ ((hl.drop off).take n)⟩
     simp [part, zgm hag, zaL hsz]
   · simp at hp
 · rename_i n hag hsz
   obtain ⟨v', h1, h2⟩ := hl.get (zf9 hp)
   refine ⟨v', ?_, h2⟩
   simp [part, zgm hag, h1]
 · simp at hp

theorem ztB {xt : TypeId} {x v : AV} {x' : Value} {f : Nat} (hx : VR σ x x') (hf : zmD P xt x f = some v) (w : World) :
 ∃ v', (Instr.field xt x' f).run P w = .ok v' w ∧ VR σ v v' := by
 unfold zmD at hf
 split at hf
 · rename_i fs cs hu
   split at hf
   · rename_i fd hfd
     cases hx with
     | agg _ m hm =>
     obtain ⟨v', h1, h2⟩ := zeg hm hf w
     exact ⟨v', by simp [Instr.field, run_underlying hu, hfd, asAgg, h1], h2⟩
   · simp at hf
 · simp at hf

theorem zk2 {s : TypeId} {x v : AV} {x' : Value} {f : Nat} (hx : VR σ x x') (hf : zeF P s x f = some v) (w : World) :
 ∃ v', (Instr.fieldAt s x' f).run P w = .ok v' w ∧ VR σ v v' := by
 unfold zeF at hf
 split at hf
 · rename_i fs i o hu
   split at hf
   · rename_i fd hfd
     split at hf
     · rename_i n hsz
       simp at hf; subst hf
       cases hx with
       | ptr _ _ p hp =>
       refine ⟨.pointer (some ⟨p.blk, p.off + (o + fd.offset), none⟩), ?_, .ptr _ _ p hp⟩
       simp [Instr.fieldAt, run_underlying hu, hfd, Instr.sureAddr, fieldPlace, zaL hsz, zde, Nat.add_assoc]
     · simp at hf
   · simp at hf
 · simp at hf

theorem zlC {t : TypeId} {x ix v : AV} {x' ix' : Value} (hx : VR σ x x') (hi : VR σ ix ix') (hf : zeB P t x ix = some v) (w : World) :
 ∃ v', (Instr.indexAt t x' ix').run P w = .ok v' w ∧ VR σ v v' := by
 unfold zeB at hf
 split at hf
 · rename_i k n
   cases hi
   split at hf
   · rename_i len e i o hu
     split at hf
     · rename_i sz hsz
       split at hf
       · rename_i hb
         simp at hf; subst hf
         cases hx with
         | ptr _ _ p hp =>
         refine ⟨.pointer (some ⟨p.blk, p.off + (o + n.toNat * sz), none⟩), ?_, .ptr _ _ p hp⟩
         simp [Instr.indexAt, asIntOf, run_underlying hu, Instr.sureAddr, hb, zaL hsz, zde, Nat.add_assoc]
       · simp at hf
     · simp at hf
   · rename_i e i o len c ex hu
     split at hf
     · rename_i sz hsz
       split at hf
       · rename_i hb
         simp at hf; subst hf
         cases hx with
         | sl _ _ _ _ _ p a c' hp hl hc ha =>
         have hne : c' ≠ 0 := by omega
         obtain rfl := ha.resolve_right hne
         refine ⟨.pointer (some ⟨p.blk, p.off + (o + n.toNat * sz), none⟩), ?_, .ptr _ _ p hp⟩
         simp [Instr.indexAt, asIntOf, run_underlying hu, hb, zaL hsz, zde, Nat.add_assoc]
         | sln => omega
       · simp at hf
     · simp at hf
   · simp at hf
 · simp at hf

theorem zsQ {t : TypeId} {x ix v : AV} {x' ix' : Value} (hx : VR σ x x') (hi : VR σ ix ix') (hf : zmr P t x ix = some v) (w : World) :
 ∃ v', (Instr.index t x' ix').run P w = .ok v' w ∧ VR σ v v' := by
 unfold zmr at hf
 split at hf
 · rename_i k n
   cases hi
   split at hf
   · rename_i len e cs hu
     split at hf
     · rename_i sz hsz
       split at hf
       · rename_i hb
         cases hx with
         | agg _ m hm =>
         obtain ⟨v', h1, h2⟩ := zeg hm hf w
         exact ⟨v', by simp [Instr.index, asIntOf, run_underlying hu, hb, zaL hsz, h1], h2⟩
       · simp at hf
     · simp at hf
   · rename_i s hu
     split at hf
     · rename_i hb
       simp only [Option.some.injEq] at hf
       subst hf
       cases hx with
       | str s' =>
       have hlt : n.toNat < s'.data.toList.length := by omega
       refine ⟨.int .u8 ((s'.data.toList.getD n.toNat 0).toNat : Int), ?_, .int _ _⟩
       have : s'[n.toNat]? = some (s'.data.toList.getD n.toNat 0) := by
        have h1 : n.toNat < s'.data.size := by simpa using hlt
        rw [List.getD_eq_getElem?_getD, List.getElem?_eq_getElem hlt, Option.getD_some, getElem?_pos s' n.toNat h1, ByteArray.getElem_eq_getElem_data, Array.getElem_toList]
       generalize s'.data.toList.getD n.toNat 0 = b at this ⊢
       simp [Instr.index, asIntOf, run_underlying hu, hb.1, this]
     · simp at hf
   · simp at hf
 · simp at hf


def zwS (σ : Sig) : Option AV → Option Value → Prop
 | none, none => True
 | some x, some y => VR σ x y
 | _, _ => False

theorem zeN {len cap cap' : Nat} {isS : Bool} {lo hi : Option AV} {lo' hi' : Option Value} {l hh : Option Int} {a b : Nat} (hcap : cap ≤ cap')
 (hlo : zwS σ lo lo') (hhi : zwS σ hi hi')
 (hl : zck lo = some l) (hh' : zck hi = some hh) (hb : zcc len cap l hh = some (a, b)) (w : World) :
 (Instr.sliceBounds isS len cap' lo' hi' none).run P w = .ok (a, b, cap') w := by
 cases lo with
 | none =>
  cases lo' with
  | some y => exact hlo.elim
  | none =>
  simp [zck] at hl; subst hl
  cases hi with
  | none =>
   cases hi' with
   | some y => exact hhi.elim
   | none =>
   simp [zck] at hh'; subst hh'
   simp [zcc] at hb
   obtain ⟨rfl, rfl⟩ := hb
   simp [Instr.sliceBounds]
  | some x =>
   cases hi' with
   | none => exact hhi.elim
   | some y =>
   cases x <;> simp [zck] at hh'
   subst hh'
   cases hhi
   rename_i k n
   simp only [zcc] at hb
   split at hb
   · rename_i hc
     simp at hb
     obtain ⟨rfl, rfl⟩ := hb
     have : 0 ≤ n ∧ n ≤ (cap' : Int) := ⟨hc.1, by omega⟩
     simp [Instr.sliceBounds, Instr.sliceBound, asIntOf, this]
   · simp at hb
 | some x0 =>
  cases lo' with
  | none => exact hlo.elim
  | some y0 =>
  cases x0 <;> simp [zck] at hl
  subst hl
  cases hlo
  rename_i k0 n0
  cases hi with
  | none =>
   cases hi' with
   | some y => exact hhi.elim
   | none =>
   simp [zck] at hh'; subst hh'
   simp only [zcc] at hb
   split at hb
   · rename_i hc
     simp at hb
     obtain ⟨rfl, rfl⟩ := hb
     simp [Instr.sliceBounds, Instr.sliceBound, asIntOf, hc]
   · simp at hb
  | some x =>
   cases hi' with
   | none => exact hhi.elim
   | some y =>
   cases x <;> simp [zck] at hh'
   subst hh'
   cases hhi
   rename_i k n
   simp only [zcc] at hb
   split at hb
   · rename_i hc
     split at hb
     · rename_i hc2
       simp at hb
       obtain ⟨rfl, rfl⟩ := hb
       have h1 : 0 ≤ n ∧ n ≤ (cap' : Int) := ⟨hc.1, by omega⟩
       have h2 : 0 ≤ n0 ∧ n0 ≤ (n.toNat : Int) := ⟨hc2.1, by omega⟩
       simp only [Instr.sliceBounds, Instr.sliceBound, asIntOf, Sem.run_bind, Sem.run_pure, Result.andThen_ok, h1, h2, and_self, if_true]
     · simp at hb
   · simp at hb

end Go.Abs

end

section
/- Operation by operation, second part: slicing, building, new blocks, append, copy. -/
set_option autoImplicit false
set_option linter.unusedVariables false
set_option linter.unusedSimpArgs false
namespace Go.Abs
variable {P : Program} {W0 : World} {σ : Sig} {h : zaa} {w : World}

def zBM : Option Int → Option Value → Prop
 | none, none => True
 | some n, some v => ∃ k, v = .int k n
 | _, _ => False

theorem zeL {len cap : Nat} {l hh : Option Int} {a b : Nat} (hb : zcc len cap l hh = some (a, b)) (hl : len ≤ cap) : a ≤ b ∧ b ≤ cap := by
 unfold zcc at hb
 split at hb
 · split at hb
   · split at hb
     · split at hb
       · simp at hb; omega
       · simp at hb
     · simp at hb; omega
   · simp at hb
 · split at hb
   · split at hb
     · simp at hb; omega
     · simp at hb
   · simp at hb; omega

theorem zhs {x : Option AV} {y : Option Value} {i : Option Int} (hxy : zwS σ x y) (hi : zck x = some i) :
 zBM i y := by
 cases x with
 | none =>
  cases y with
  | none => simp [zck] at hi; subst hi; trivial
  | some y => exact hxy.elim
 | some x =>
  cases y with
  | none => exact hxy.elim
  | some y =>
   cases x <;> simp [zck] at hi
   subst hi
   cases hxy
   exact ⟨_, rfl⟩

theorem zfA (s : ByteArray) (a b : Nat) (h1 : a ≤ b) (h2 : b ≤ s.size) : (s.extract a b).data.toList = (s.data.toList.take b).drop a := by
 simp [List.drop_take]

theorem zj2 {len cap cap' : Nat} {lo : Option Value} {l : Option Int} {n c : Int} {a b : Nat} (hcap : cap ≤ cap')
 (hlo : zBM l lo) {kh kc : IntKind}
 (hc : 0 ≤ c ∧ c ≤ (cap : Int)) (hb : zcc len c.toNat l (some n) = some (a, b)) (w : World) :
 (Instr.sliceBounds true len cap' lo (some (.int kh n)) (some (.int kc c))).run P w = .ok (a, b, c.toNat) w := by
 have h1 : 0 ≤ c ∧ c ≤ (cap' : Int) := ⟨hc.1, by omega⟩
 simp only [zcc] at hb
 split at hb
 · rename_i hn
   cases l with
   | none =>
    cases lo with
    | some y => exact hlo.elim
    | none =>
    simp at hb
    obtain ⟨rfl, rfl⟩ := hb
    simp only [Instr.sliceBounds, Instr.sliceBound, asIntOf, Sem.run_bind, Sem.run_pure, Result.andThen_ok, h1, hn, and_self, if_true]
   | some x =>
    cases lo with
    | none => exact hlo.elim
    | some y =>
    obtain ⟨k, rfl⟩ := hlo
    simp only at hb
    split at hb
    · rename_i hx
      simp at hb
      obtain ⟨rfl, rfl⟩ := hb
      have h2 : 0 ≤ x ∧ x ≤ (n.toNat : Int) := ⟨hx.1, by omega⟩
      simp only [Instr.sliceBounds, Instr.sliceBound, asIntOf, Sem.run_bind, Sem.run_pure, Result.andThen_ok, h1, hn, h2, and_self, if_true]
    · simp at hb
 · simp at hb

theorem znV {len cap : Nat} {lo hi : Option Int} {a b : Nat} (h : zcc len cap lo hi = some (a, b)) : a ≤ b ∧ (hi.isNone = true → b = len) := by
 unfold zcc at h
 split at h
 · split at h
   · split at h
     · split at h
       · simp at h; simp; omega
       · simp at h
     · simp at h; simp; omega
   · simp at h
 · split at h
   · split at h
     · simp at h; simp; omega
     · simp at h
   · simp at h; simp; omega

theorem ztv {t : TypeId} {x v : AV} {x' : Value} {lo hi mx : Option AV} {lo' hi' mx' : Option Value} (hx : VR σ x x') (hlo : zwS σ lo lo') (hhi : zwS σ hi hi') (hmx : zwS σ mx mx')
 (hs : zml P t x lo hi mx = some v) (w : World) : ∃ v', (Instr.sliceAt t x' lo' hi' mx').run P w = .ok v' w ∧ VR σ v v' := by
 unfold zml at hs
 split at hs
 · rename_i l hh m hl0 hh0 hm0
   have hlv := zhs hlo hl0
   have hmv := zhs hmx hm0
   have hhv := zhs hhi hh0
   split at hs
   · rename_i s hu
     split at hs
     · cases mx' with
       | some y => exact hmv.elim
       | none =>
       simp only [Option.map_eq_some_iff] at hs
       obtain ⟨⟨a, b⟩, hab, rfl⟩ := hs
       cases hx with
       | str s' =>
       have hsz : s'.data.toList.length = s'.size := by simp
       rw [hsz] at hab
       have hle := zeL hab (Nat.le_refl _)
       have hb := zeN (P := P) (isS := false) (Nat.le_refl _) hlo hhi hl0 hh0 hab w
       refine ⟨.string (s'.extract a b), ?_, ?_⟩
       · simp [Instr.sliceAt, run_underlying hu, Instr.slice, hb]
       · rw [← zfA s' a b hle.1 hle.2]; exact .str _
     · simp at hs
   · rename_i e base len cap ex hu
     split at hs
     · rename_i sz hsz
       split at hs
       · -- two indices
         cases mx' with
         | some y => exact hmv.elim
         | none =>
         simp only [Option.map_eq_some_iff] at hs
         obtain ⟨⟨a, b⟩, hab, rfl⟩ := hs
         cases hx with
         | sl0 =>
          have hz0 : zai 0 0 ex = 0 := by cases ex <;> rfl
          have hle := zeL hab (Nat.zero_le _)
          rw [hz0] at hab
          have hb := zeN (P := P) (isS := true) (Nat.le_refl 0) hlo hhi hl0 hh0 hab w
          have hb0 : b = 0 := by omega
          have ha0 : a = 0 := by omega
          subst hb0; subst ha0
          refine ⟨.slice none 0 0, ?_, ?_⟩
          · simp [Instr.sliceAt, run_underlying hu, Instr.slice, hb, zaL hsz]
          · have : zac 0 0 0 hh.isNone 0 ex = 0 := by cases ex <;> cases hh.isNone <;> rfl
            simp only [this]; exact .sl0 _
         | sln i o p hp hz =>
          have hle := zeL hab (Nat.zero_le _)
          have hz0 : zai 0 0 false = 0 := rfl
          rw [hz0] at hab hle
          have hb := zeN (P := P) (isS := true) (Nat.le_refl 0) hlo hhi hl0 hh0 hab w
          have hb0 : b = 0 := by omega
          have ha0 : a = 0 := by omega
          subst hb0; subst ha0
          refine ⟨.slice none 0 0, ?_, ?_⟩
          · simp [Instr.sliceAt, run_underlying hu, Instr.slice, hb, zaL hsz]
          · have : zac 0 0 0 hh.isNone 0 false = 0 := by cases hh.isNone <;> rfl
            simp only [Nat.sub_self, this]
            exact .sln i _ p hp hz
         | sl i o _ _ _ p ad c' hp hlc hc ha =>
          have hcl := zoF hlc hc
          have hcap := hcl.2
          have hle := zeL hab hcl.1
          have hb := zeN (P := P) (isS := true) hcap hlo hhi hl0 hh0 hab w
          have hroom := zpD hle.1 hle.2 (full := hh.isNone) fun h => (znV hab).2 h
          refine ⟨.slice (some (if c' = a then ad else ad.add (a * sz))) (b - a) (c' - a), ?_, ?_⟩
          · simp only [Instr.sliceAt, Sem.run_bind, run_underlying hu, Result.andThen_ok, Instr.slice, hb, zaL hsz, Sem.run_pure]
            split <;> rfl
          · refine .sl i (o + a * sz) (b - a) _ ex p _ _ hp (by omega) (by rw [hroom]; cases ex <;> simp [zai] at hc hle ⊢ <;> omega) ?_
            by_cases e0 : c' = a
            · right; omega
            · rcases ha with rfl | h0
              · left; rw [if_neg e0, zde, Nat.add_assoc]
              · right; omega
       · -- three
         rename_i c n
         cases mx' with
         | none => exact hmv.elim
         | some ym =>
         cases hi' with
         | none => exact hhv.elim
         | some yh =>
         obtain ⟨kc, rfl⟩ := hmv
         obtain ⟨kh, rfl⟩ := hhv
         split at hs
         · rename_i hc0
           obtain ⟨hc00, hc01, hsn⟩ := hc0
           have hc0 := And.intro hc00 hc01
           simp only [Option.map_eq_some_iff] at hs
           obtain ⟨⟨a, b⟩, hab, rfl⟩ := hs
           have hle2 : a ≤ b ∧ b ≤ c.toNat := by
            simp only [zcc] at hab
            split at hab
            · split at hab
              · split at hab
                · simp at hab; omega
                · simp at hab
              · simp at hab; omega
            · simp at hab
           cases hx with
           | sl0 =>
            have hz0 : zai 0 0 ex = 0 := by cases ex <;> rfl
            have hct : c.toNat = 0 := by omega
            have hcap : zai 0 0 ex ≤ 0 := by omega
            have hb := zj2 (P := P) hcap hlv (kh := kh) (kc := kc) hc0 hab w
            have hb0 : b = 0 := by omega
            have ha0 : a = 0 := by omega
            subst hb0; subst ha0
            refine ⟨.slice none 0 0, ?_, ?_⟩
            · simp [Instr.sliceAt, run_underlying hu, Instr.slice, hb, zaL hsz, hct]
            · rw [hct]; exact .sl0 true
           | sln i o p hp hz => simp [ztJ] at hsn
           | sl i o _ _ _ p ad c' hp hlc hc ha =>
            have hcap := (zoF hlc hc).2
            have hb := zj2 (P := P) hcap hlv (kh := kh) (kc := kc) hc0 hab w
            refine ⟨.slice (some (if c.toNat = a then ad else ad.add (a * sz))) (b - a) (c.toNat - a), ?_, ?_⟩
            · simp only [Instr.sliceAt, Sem.run_bind, run_underlying hu, Result.andThen_ok, Instr.slice, hb, zaL hsz, Sem.run_pure]
              split <;> rfl
            · refine .sl i (o + a * sz) (b - a) (c.toNat - a) true p _ _ hp (by omega) (by simp [zai]) ?_
              by_cases e0 : c.toNat = a
              · right; omega
              · rcases ha with rfl | h0
                · left; rw [if_neg e0, zde, Nat.add_assoc]
                · right; omega
         · simp at hs
       · simp at hs
     · simp at hs
   · rename_i n e i o hu
     split at hs
     · rename_i sz hsz
       cases mx' with
       | some y => exact hmv.elim
       | none =>
       simp only [Option.map_eq_some_iff] at hs
       obtain ⟨⟨a, b⟩, hab, rfl⟩ := hs
       cases hx with
       | ptr _ _ p hp =>
       have hle := zeL hab (Nat.le_refl _)
       have hb := zeN (P := P) (isS := false) (Nat.le_refl _) hlo hhi hl0 hh0 hab w
       refine ⟨.slice (some (if n = a then ⟨p.blk, p.off + o, none⟩ else (⟨p.blk, p.off + o, none⟩ : Addr).add (a * sz))) (b - a) (n - a), ?_, ?_⟩
       · simp only [Instr.sliceAt, Sem.run_bind, run_underlying hu, Result.andThen_ok, Instr.sureAddr, hb, zaL hsz, Sem.run_pure]
       · refine .sl i (o + a * sz) (b - a) (n - a) true p _ _ hp (by omega) (by simp [zai]) ?_
         by_cases e0 : n = a
         · right; omega
         · left; rw [if_neg e0, zde, Nat.add_assoc]
     · simp at hs
   · simp at hs
 · simp at hs


theorem zqk : ∀ (ys : List Value) (cs : Array Value) (off : Nat), ((ys.toArray.zipIdx.foldl (fun (cs : Array Value) (x : Value × Nat) => cs.setIfInBounds (off + x.2) x.1) cs)).toList = ziw cs.toList off ys := by
 have gen : ∀ (ys : List Value) (k : Nat) (cs : Array Value) (off : Nat), ((ys.zipIdx k).foldl (fun (cs : Array Value) (x : Value × Nat) => cs.setIfInBounds (off + x.2) x.1) cs).toList = ziw cs.toList (off + k) ys := by
  intro ys
  induction ys with
  | nil => intro k cs off; rfl
  | cons y ys ih =>
   intro k cs off
   simp only [List.zipIdx_cons, List.foldl_cons, ziw]
   rw [ih]
   simp [Nat.add_assoc]
 intro ys cs off
 have := gen ys 0 cs off
 simp only [Nat.add_zero] at this
 rw [← this]
 simp [Array.zipIdx, List.mapIdx_eq_zipIdx_map]
theorem zhc {place : Nat → Option (Nat × Nat)} : ∀ {ps : List (Nat × AV)} {qs : List (Nat × Value)} {cs : List AV} {ds : List Value} {r : List AV},
 ps.length = qs.length → (∀ (j : Nat) x y, ps[j]? = some x → qs[j]? = some y → x.1 = y.1 ∧ VR σ x.2 y.2) → VRs σ cs ds → zgU place cs ps = some r →
 ∃ rs : List Value, Instr.fill place ds.toArray qs = some rs.toArray ∧ VRs σ r rs
 | [], [], cs, ds, r, _, _, hc, hr => by
  simp [zgU] at hr; subst hr
  exact ⟨ds, by simp [Instr.fill], hc⟩
 | [], _ :: _, _, _, _, hl, _, _, _ => by simp at hl
 | _ :: _, [], _, _, _, hl, _, _, _ => by simp at hl
 | (i, v) :: ps, (i', v') :: qs, cs, ds, r, hl, hp, hc, hr => by
  obtain ⟨e1, e2⟩ := hp 0 _ _ rfl rfl
  simp at e1 e2
  subst e1
  unfold zgU at hr
  split at hr
  · rename_i off sz xs hpl hxs
    split at hr
    · rename_i hcond
      have hv := zcN e2 hxs
      have hsz : v'.cells.size = sz := by rw [← Array.length_toList, ← hv.length, hcond.1]
      have hds : ds.length = cs.length := hc.length.symm
      obtain ⟨rs, h1, h2⟩ := zhc (ps := ps) (qs := qs) (by simpa using hl) (fun j x y hx hy => hp (j + 1) x y (by simpa using hx) (by simpa using hy)) (hv.put off hc) hr
      refine ⟨rs, ?_, h2⟩
      have hput := zqk v'.cells.toList ds.toArray off
      rw [Array.toArray_toList] at hput
      have : (v'.cells.zipIdx.foldl (fun (cs : Array Value) (x : Value × Nat) => cs.setIfInBounds (off + x.2) x.1) ds.toArray) = (ziw ds off v'.cells.toList).toArray := by
       apply Array.ext'; rw [hput]
      unfold Instr.fill
      simp only [hpl, hsz]
      rw [if_neg (by simp; omega)]
      rw [this]
      exact h1
    · simp at hr
  · simp at hr

theorem zi4 {F : Field → Sem (Nat × Nat)} (hF : ∀ f w n, zbE P f.type = some n → (F f).run P w = .ok (f.offset, n) w) (w : World) : ∀ (l : List Field), (∀ f ∈ l, (zbE P f.type).isSome = true) →
 (l.mapM F).run P w = .ok (l.map fun f => (f.offset, (zbE P f.type).getD 0)) w
 | [], _ => by simp
 | f :: l, hh => by
  have hf := hh f (by simp)
  obtain ⟨n, hn⟩ := Option.isSome_iff_exists.1 hf
  rw [List.mapM_cons]
  simp only [Sem.run_bind, hF f w n hn, Result.andThen_ok, zi4 hF w l (fun g hg => hh g (by simp [hg])), Sem.run_pure, List.map_cons, hn, Option.getD_some]

theorem zkr {p q : Nat → Option (Nat × Nat)} : ∀ (qs : List (Nat × Value)) (ds : Array Value), (∀ x ∈ qs, p x.1 = q x.1) → Instr.fill p ds qs = Instr.fill q ds qs
 | [], _, _ => rfl
 | (i, v) :: qs, ds, hh => by
  have h0 : p i = q i := hh (i, v) (by simp)
  unfold Instr.fill
  rw [h0]
  split
  · rfl
  · split
    · rfl
    · exact zkr qs _ fun x hx => hh x (by simp [hx])

def PartsR (σ : Sig) (ps : List (Nat × AV)) (qs : List (Nat × Value)) : Prop :=
 ps.length = qs.length ∧ ∀ (j : Nat) x y, ps[j]? = some x → qs[j]? = some y → x.1 = y.1 ∧ VR σ x.2 y.2

theorem zih {place : Nat → Option (Nat × Nat)} : ∀ {ps : List (Nat × AV)} {cs r : List AV}, zgU place cs ps = some r → ∀ x ∈ ps, (place x.1).isSome = true
 | [], _, _, _, _, hx => by simp at hx
 | (i, v) :: ps, cs, r, hr, x, hx => by
  unfold zgU at hr
  split at hr
  · rename_i off sz xs hpl hxs
    split at hr
    · rcases List.mem_cons.1 hx with rfl | hx
      · simp [hpl]
      · exact zih hr x hx
    · simp at hr
  · simp at hr

theorem PartsR.mem {ps : List (Nat × AV)} {qs : List (Nat × Value)} (hp : PartsR σ ps qs) {y : Nat × Value} (hy : y ∈ qs) : ∃ x ∈ ps, x.1 = y.1 := by
 obtain ⟨i, hi, rfl⟩ := List.mem_iff_getElem.1 hy
 have hl : i < ps.length := by rw [hp.1]; exact hi
 exact ⟨ps[i], List.getElem_mem hl, (hp.2 i _ _ (List.getElem?_eq_getElem hl) (List.getElem?_eq_getElem hi)).1⟩

theorem ztz {t : TypeId} {ps : List (Nat × AV)} {qs : Array (Nat × Value)} {v : AV} (hp : PartsR σ ps qs.toList) (hb : zmh P t ps = some v) (w : World) :
 ∃ v', (Instr.build t qs).run P w = .ok v' w ∧ VR σ v v' := by
 unfold zmh at hb
 split at hb
 · simp at hb
 · rename_i z hz
   obtain ⟨zv, hz1, hz2⟩ := zcI hz σ w
   split at hb
   · rename_i zc fs hzc hu
     split at hb
     rotate_left
     · simp at hb
     rename_i hall0
     have hall : ∀ f ∈ fs.toList, (zbE P f.type).isSome = true := fun f hf => List.all_eq_true.1 hall0 f hf
     simp only [Option.map_eq_some_iff] at hb
     obtain ⟨cs, hcs, rfl⟩ := hb
     have hzv := zcN hz2 hzc
     obtain ⟨rs, h1, h2⟩ := zhc hp.1 hp.2 hzv hcs
     refine ⟨.agg rs.toArray, ?_, .agg _ _ h2⟩
     · have hm := zi4 (P := P) (F := fun f => do pure (f.offset, ← sizeOf f.type)) (fun f w n hn => by simp [zaL hn]) w fs.toList hall
       have hm' : (fs.mapM fun f => (do pure (f.offset, ← sizeOf f.type) : Sem (Nat × Nat))).run P w = .ok ((fs.toList.map fun f => (f.offset, (zbE P f.type).getD 0)).toArray) w := by
        rw [Array.mapM_eq_mapM_toList]
        simp only [Sem.run_map, hm, Result.andThen_ok]
       have hfill : Instr.fill ((fs.toList.map fun f => (f.offset, (zbE P f.type).getD 0)).toArray[·]?) zv.cells qs.toList = some rs.toArray := by
        rw [← h1, Array.toArray_toList]
        refine zkr _ _ fun y hy => ?_
        obtain ⟨x, hx, e⟩ := hp.mem hy
        have := zih hcs x hx
        rw [← e]
        simp only [List.getElem?_toArray, List.getElem?_map, Array.getElem?_toList]
        cases hf : fs[x.1]? with
        | none => simp [hf] at this
        | some f =>
         simp only [hf, Option.bind_some, Option.isSome_map] at this
         obtain ⟨n, hn⟩ := Option.isSome_iff_exists.1 this
         simp [hn]
       simp only [Instr.build, Sem.run_bind, hz1, Result.andThen_ok, run_underlying hu]
       simp only [hm', Result.andThen_ok, hfill]
       rfl
   · rename_i zc n e hzc hu
     split at hb
     · rename_i sz hsz
       simp only [Option.map_eq_some_iff] at hb
       obtain ⟨cs, hcs, rfl⟩ := hb
       have hzv := zcN hz2 hzc
       obtain ⟨rs, h1, h2⟩ := zhc hp.1 hp.2 hzv hcs
       refine ⟨.agg rs.toArray, ?_, .agg _ _ h2⟩
       rw [Array.toArray_toList] at h1
       simp only [Instr.build, Sem.run_bind, hz1, Result.andThen_ok, run_underlying hu, zaL hsz, h1]
       rfl
     · simp at hb
   · simp at hb

end Go.Abs

end

section
/- Operation by operation, third part: new blocks, append, copy. -/
set_option autoImplicit false
set_option linter.unusedVariables false
set_option linter.unusedSimpArgs false
namespace Go.Abs
variable {P : Program} {W0 : World} {σ : Sig} {h : zaa} {w : World}

def SimV (W0 : World) (σ : Sig) (h : zaa) (w : World) (run : Result Value) (v : AV) (h' : zaa) : Prop :=
 ∃ σ' w' v', run = .ok v' w' ∧ Stp σ h w σ' h' w' ∧ Rel W0 σ' h' w' ∧ VR σ' v v'

def zBX (W0 : World) (σ : Sig) (h : zaa) (w : World) (run : Result Unit) (h' : zaa) : Prop :=
 ∃ σ' w', run = .ok () w' ∧ Stp σ h w σ' h' w' ∧ Rel W0 σ' h' w'

theorem SimV.still (R : Rel W0 σ h w) {run : Result Value} {v : AV} {v' : Value} (hr : run = .ok v' w) (hv : VR σ v v') : SimV W0 σ h w run v h :=
 ⟨σ, w, v', hr, Stp.refl _ _ _, R, hv⟩

theorem Rel.newCells (R : Rel W0 σ h w) (t : TypeId) (c : Array Value) {xs : List AV} (esz sp : Nat) (hv : VRs σ xs (c.toList.take xs.length)) (hsp : xs.length + sp * esz ≤ c.size) (h00 : xs = [] → sp = 0) :
 Rel W0 (σ ++ [⟨w.heap.size, 0, sp⟩]) (h ++ [.cells xs esz .own none]) (w.alloc (.cells c t)) ∧ Stp σ h w (σ ++ [⟨w.heap.size, 0, sp⟩]) (h ++ [.cells xs esz .own none]) (w.alloc (.cells c t)) := by
 refine R.push _ _ _ rfl ?_
 by_cases h0 : xs = []
 · exact .inl ⟨h0, fun _ => h00 h0⟩
 · exact .inr ⟨h0, c, t, (0, 0), World.alloc_heap_new w _, by simpa using hv.grow _, fun _ => ⟨fun j _ _ => by simp, by simpa using hsp⟩⟩

theorem Rel.newAt (R : Rel W0 σ h w) (p : Plc) : (σ ++ [p])[h.length]? = some p := by rw [← R.len]; simp

theorem ztD (R : Rel W0 σ h w) {t : TypeId} {x v : AV} {x' : Value} {h' : zaa} (hx : VR σ x x') (hb : zul P h t x = some (v, h')) :
 SimV W0 σ h w ((Instr.box t x').run P w) v h' := by
 unfold zul at hb
 split at hb
 · rename_i xs n hxs hsz
   simp at hb
   obtain ⟨rfl, rfl⟩ := hb
   have hv := zcN hx hxs
   have hl := hv.length
   have := R.newCells t x'.cells (xs := xs) n 0 (by rw [List.take_of_length_le (by omega)]; exact hv) (by rw [hl]; simp) (fun _ => rfl)
   exact ⟨_, _, _, by simp [Instr.box, newVar, newRow], this.2, this.1, .ptr _ _ _ (R.newAt _)⟩
 · simp at hb

theorem zti (R : Rel W0 σ h w) {t : TypeId} {v : AV} {h' : zaa} (hb : ziS P h t = some (v, h')) :
 SimV W0 σ h w ((Instr.alloc t true (.tuple #[])).run P w) v h' := by
 unfold ziS at hb
 split at hb
 · rename_i z hz
   obtain ⟨zv, h1, h2⟩ := zcI hz σ w
   obtain ⟨σ', w', v', h3, h4, h5, h6⟩ := ztD R h2 hb
   refine ⟨σ', w', v', ?_, h4, h5, h6⟩
   rw [← h3]
   simp [Instr.alloc, Instr.box, h1]
 · simp at hb

theorem zff (z : Array Value) (hz : 0 < z.size) : ∀ n, ((Array.range (n * z.size)).map fun i => z[i % z.size]!).toList = (List.replicate n z.toList).flatten
 | 0 => by simp
 | n + 1 => by
  have ih := zff z hz n
  rw [Array.toList_map, Array.toList_range] at ih ⊢
  rw [show (n + 1) * z.size = z.size + n * z.size by rw [Nat.succ_mul, Nat.add_comm], List.range_add, List.map_append, List.map_map, List.replicate_succ, List.flatten_cons, ← ih]
  congr 1
  · apply List.ext_getElem
    · simp
    · intro i h1 h2
      simp at h1
      simp [Nat.mod_eq_of_lt h1, h1]
  · apply List.map_congr_left
    intro i _
    simp

theorem zhG {zc : List AV} {z : Array Value} (hz : VRs σ zc z.toList) (n : Nat) : VRs σ (zex n zc) (List.replicate n z.toList).flatten := hz.flatten n

theorem zjS (R : Rel W0 σ h w) {t : TypeId} {n : Nat} {ps : List (Nat × AV)} {qs : Array (Nat × Value)} {v : AV} {h' : zaa} (hp : PartsR σ ps qs.toList) (hb : zcp P h t n ps = some (v, h')) :
 SimV W0 σ h w ((Instr.buildSlice t n qs).run P w) v h' := by
 unfold zcp at hb
 split at hb
 · simp at hb
 · rename_i e he
   split at hb
   · rename_i sz z hsz hz
     split at hb
     · rename_i zc hzc
       split at hb
       · rename_i hc
         simp only [Option.map_eq_some_iff] at hb
         obtain ⟨cs, hcs, hb⟩ := hb
         simp at hb
         obtain ⟨rfl, rfl⟩ := hb
         obtain ⟨zv, hz1, hz2⟩ := zcI hz σ w
         have hzv := zcN hz2 hzc
         have hzs : zv.cells.size = sz := by rw [← Array.length_toList, ← hzv.length, hc.1]
         obtain ⟨rs, h1, h2⟩ := zhc hp.1 hp.2 (zhG hzv n) hcs
         have := R.newCells e rs.toArray (xs := cs) sz 0 (by rw [List.take_of_length_le (by simp [h2.length])]; simpa using h2) (by simp [h2.length]) (fun _ => rfl)
         refine ⟨_, _, _, ?_, this.2, this.1, .sl _ _ _ _ _ _ ⟨w.heap.size, 0, none⟩ n (R.newAt _) (Nat.le_refl _) (by simp [zai]) (.inl (by simp))⟩
         have hrep := zff zv.cells (by omega) n
         rw [hzs] at hrep
         have harr : ((Array.range (n * sz)).map fun i => zv.cells[i % sz]!) = (List.replicate n zv.cells.toList).flatten.toArray := by
          apply Array.ext'; rw [hrep]
         have hno : ¬ (n * sz > 2 ^ 24) := by omega
         simp only [Instr.buildSlice, Sem.run_bind, run_underlying (zcD he), Result.andThen_ok, zaL hsz, Sem.run_ite, hno, if_false]
         by_cases h0 : n * sz = 0
         · have hn : n = 0 := by
             rcases Nat.mul_eq_zero.1 h0 with h | h
             · exact h
             · omega
           subst hn
           have e0 : ∀ f : Nat → Value, Array.map f (Array.range 0) = #[] := fun f => by apply Array.ext'; simp
           simp only [Nat.zero_mul, List.replicate_zero, List.flatten_nil, if_true, Sem.run_pure, Result.andThen_ok, e0] at h1 ⊢
           simp [h1, newRow]
         · simp only [h0, if_false, Sem.run_bind, hz1, Result.andThen_ok, Sem.run_pure, hzs, harr, h1]
           simp [newRow]
       · simp at hb
     · simp at hb
   · simp at hb

theorem zlf (R : Rel W0 σ h w) {t : TypeId} {l c v : AV} {l' c' : Value} {h' : zaa} {same : Bool} (hl : VR σ l l') (hcv : VR σ c c') (hsame : same = true → l = c) (hb : zdP P h t l c same = some (v, h')) :
 SimV W0 σ h w ((Instr.makeSlice t l' c').run P w) v h' := by
 unfold zdP at hb
 split at hb
 · rename_i e k l k2 c he
   cases hl
   cases hcv
   split at hb
   · rename_i sz by_ z hsz hby hz
     split at hb
     · rename_i zc hzc
       split at hb
       · rename_i hc
         simp at hb
         obtain ⟨rfl, rfl⟩ := hb
         obtain ⟨zv, hz1, hz2⟩ := zcI hz σ w
         obtain ⟨ti, ht1, ht2⟩ := zqC hby w
         have hzv := zcN hz2 hzc
         have hzs : zv.cells.size = sz := by rw [← Array.length_toList, ← hzv.length, hc.1]
         have hrep := zff zv.cells (by omega) c.toNat
         rw [hzs] at hrep
         have hlen : (zex c.toNat zc).length = c.toNat * sz := by simp [zex, hc.1]
         have hlen2 : (List.replicate c.toNat zv.cells.toList).flatten.length = c.toNat * sz := by rw [← (zhG hzv c.toNat).length, hlen]
         have harr : ((Array.range (c.toNat * sz)).map fun i => zv.cells[i % sz]!) = (List.replicate c.toNat zv.cells.toList).flatten.toArray := by
          apply Array.ext'; rw [hrep]
         have := R.newCells e (List.replicate c.toNat zv.cells.toList).flatten.toArray (xs := zex c.toNat zc) sz 0
          (by rw [List.take_of_length_le (by simp only [hlen, hlen2]; omega)]; exact zhG hzv _) (by simp only [List.size_toArray, hlen2, hlen]; omega) (fun _ => rfl)
         refine ⟨_, _, _, ?_, this.2, this.1, .sl _ _ _ _ _ _ ⟨w.heap.size, 0, none⟩ c.toNat (R.newAt _) (by omega) (by cases same <;> simp [zai]; have := hsame rfl; cases this; rfl) (.inl (by simp))⟩
         obtain ⟨_, hc2, hc3, hc4, hc5, hc6⟩ := hc
         have hwl : IntKind.i64.wrap l = l := by simp only [IntKind.wrap, IntKind.bits, IntKind.signed]; simp; omega
         have hwc : IntKind.i64.wrap c = c := by simp only [IntKind.wrap, IntKind.bits, IntKind.signed]; simp; omega
         have hn1 : (decide (c < 0) || decide ((ti.bytes : Int) * c > 2 ^ 48) || decide (l < 0) || decide (l > c)) = false := by
          rw [ht2]; simp; omega
         simp only [Instr.makeSlice, Sem.run_bind, run_underlying (zcD he), Result.andThen_ok, asInt, asIntOf, Sem.run_pure, ht1, hwl, hwc, run_askRoom, zaL hsz, Sem.run_ite]
         rw [if_neg (by simpa using hn1)]
         by_cases h0 : c.toNat * sz = 0
         · have hn : c.toNat = 0 := by
             rcases Nat.mul_eq_zero.1 h0 with h | h
             · exact h
             · omega
           have e0 : ∀ f : Nat → Value, Array.map f (Array.range 0) = #[] := fun f => by apply Array.ext'; simp
           simp [h0, hn, newRow, e0]
         · simp only [h0, if_false, Sem.run_bind, hz1, Result.andThen_ok, Sem.run_pure, hzs, harr]
           simp [newRow]
       · simp at hb
     · simp at hb
   · simp at hb
 · simp at hb


inductive SrcR (P : Program) (w : World) (e : TypeId) (sz n : Nat) (new : List Value) : Option TypeId → Value → Prop
 | row (xt : Option TypeId) (x : Value) (hz : ∀ t, xt = some t → ∃ d, P.underlying t = some d ∧ ∀ k, d ≠ .int k) (hl : ∀ w, (Builtin.lenOf x).run P w = .ok n w)
  (hf : (Builtin.firstCells sz n x).run P w = .ok new.toArray w) : SrcR P w e sz n new xt x
 | zeros (t : TypeId) (k k' : IntKind) (l : Int) (z : Value) (i : TypeInfo) (ht : P.underlying t = some (.int k)) (hi : P.info? e = some i) (h0 : 0 ≤ l) (h1 : l ≤ 70368744177664) (h2 : l * i.bytes ≤ 281474976710656) (hn : n = l.toNat)
  (hz : (zeroValue e).run P w = .ok z w) (hs : z.cells.size = sz) (hnew : new = (List.replicate n z.cells.toList).flatten) : SrcR P w e sz n new (some t) (.int k' l)

theorem zjC {e : TypeId} {xt : Option TypeId} {sz by_ n : Nat} {x : AV} {x' : Value} {new : List AV} (R : Rel W0 σ h w) (hx : VR σ x x') (hsz : zbE P e = some sz) (hby : zg2 P e = some by_)
 (hs : zzU P h e sz by_ xt x = some (n, new)) : ∃ new' : List Value, VRs σ new new' ∧ new'.length = n * sz ∧ SrcR P w e sz n new' xt x' := by
 unfold zzU at hs
 have row : zjD P xt = some false → ∀ t, xt = some t → ∃ d, P.underlying t = some d ∧ ∀ k, d ≠ .int k := by
  intro hz t ht
  subst ht
  simp only [zjD] at hz
  split at hz
  · simp at hz
  · rename_i d hd hu
    exact ⟨d, hu, fun k e => hd k (by rw [← e])⟩
  · simp at hz
 split at hs
 · rename_i k l hz
   cases hx
   split at hs
   · rename_i z hzv0
     split at hs
     · rename_i zc hzc
       split at hs
       · rename_i hc
         simp at hs
         obtain ⟨rfl, rfl⟩ := hs
         obtain ⟨zv, hz1, hz2⟩ := zcI hzv0 σ w
         unfold zg2 at hby
         simp only [Option.map_eq_some_iff] at hby
         obtain ⟨ti, hti, rfl⟩ := hby
         have hzv := zcN hz2 hzc
         have hzs : zv.cells.size = sz := by rw [← Array.length_toList, ← hzv.length, hc.1]
         unfold zjD at hz
         split at hz
         · rename_i t1
           split at hz
           · rename_i k1 hu
             exact ⟨_, zhG hzv _, by simp [hzs], .zeros t1 k1 k l zv ti hu hti hc.2.1 hc.2.2.1 hc.2.2.2 rfl hz1 hzs rfl⟩
           · simp at hz
           · simp at hz
         · simp at hz
       · simp at hs
     · simp at hs
   · simp at hs
 · rename_i n0 c0 e0 hz
   split at hs
   · rename_i hn
     simp at hs
     obtain ⟨rfl, rfl⟩ := hs
     cases hx
     exact ⟨[], .nil, by simp, .row _ _ (row hz) (fun w => by simp [Builtin.lenOf]) (by simp [Builtin.firstCells])⟩
   · simp at hs
 · rename_i i o n0 c0 e0 hz
   simp only [Option.map_eq_some_iff] at hs
   obtain ⟨cs, hcs, hs⟩ := hs
   simp at hs
   obtain ⟨rfl, rfl⟩ := hs
   cases hx with
   | sln _ _ p hp hc =>
    refine ⟨[], ?_, by simp, .row _ _ (row hz) (fun w => by simp [Builtin.lenOf]) (by simp [Builtin.firstCells])⟩
    obtain ⟨vs, h1, h2, _⟩ := R.cellsAt hcs hp
    simp at h1
    subst h1; exact h2
   | sl _ _ _ _ _ p ad c' hp hl hc ha =>
   by_cases h0 : n0 = 0
   · subst h0
     refine ⟨[], ?_, by simp, .row _ _ (row hz) (fun w => by simp [Builtin.lenOf]) (by simp [Builtin.firstCells, loadCells, loadCellsFrom])⟩
     obtain ⟨vs, h1, h2, _⟩ := R.cellsAt hcs hp
     simp at h1
     have : vs = [] := by simpa using h1
     subst this; exact h2
   · obtain rfl := ha.resolve_right (by omega)
     obtain ⟨vs, h1, h2, h3⟩ := R.loadCells (P := P) hcs hp
     exact ⟨vs, h2, h3, .row _ _ (row hz) (fun w => by simp [Builtin.lenOf]) (by simp [Builtin.firstCells, h1])⟩
 · rename_i s hz
   split at hs
   · rename_i h1
     simp at hs
     obtain ⟨rfl, rfl⟩ := hs
     cases hx with
     | str s' =>
     refine ⟨s'.data.toList.map fun b => .int .u8 b.toNat, VRs.map_of _ _ _ fun b _ => .int _ _, by simp [h1], .row _ _ (row hz) (fun w => by simp [Builtin.lenOf]) ?_⟩
     have : s'.extract 0 s'.size = s' := by
      have := zfA s' 0 s'.size (Nat.zero_le _) (Nat.le_refl _)
      have h2 : (s'.extract 0 s'.size).data = s'.data := by
       apply Array.ext'; rw [this, List.drop_zero, List.take_of_length_le (by simp)]
      cases s'; cases hx : ByteArray.extract _ _ _; simp_all
     simp only [Builtin.firstCells, this, Sem.run_pure]
     congr 1
     apply Array.ext'; simp
   · simp at hs
 · simp at hs

def zea (P : Program) (w : World) (off : Nat) (new : List Value) (w' : World) : Option Addr → Prop
 | some a => (storeCells (a.add off) new).run P w = .ok () w'
 | none => w' = w

theorem zgH {t e ty : TypeId} {ats : Array TypeId} {base : Option Addr} {l c sz n : Nat} {x : Value} {new : List Value} {w' : World} (h0 : ats[0]? = some t) (he : P.underlying t = some (.slice e)) (hsz : zbE P e = some sz)
 (hs : SrcR P w e sz n new ats[1]? x) (hfit : l + n ≤ c)
 (hst : zea P w (l * sz) new w' base) :
 (Builtin.append_ ats ty #[.slice base l c, x]).run P w = .ok (.slice base (l + n) c) w' := by
 generalize hxt : ats[1]? = xt at hs
 cases hs with
 | row _ _ hz hl hf =>
  cases xt with
  | none =>
   simp only [Builtin.append_, h0, hxt, Sem.run_bind, run_underlying he, Result.andThen_ok, zaL hsz, List.getElem?_toArray, List.getElem?_cons_zero, List.getElem?_cons_succ, Sem.run_pure, Bool.false_eq_true, if_false, hl, hfit, if_true, Bool.not_false, hf]
   cases base with
   | none => simp only [zea] at hst; subst hst; rfl
   | some a => simp only [zea] at hst; simp only [Sem.run_bind, hst, Result.andThen_ok, Sem.run_pure]
  | some xt =>
   obtain ⟨d, hu, hd⟩ := hz xt rfl
   cases d <;> first
    | exact absurd rfl (hd _)
    | (simp only [Builtin.append_, h0, hxt, Sem.run_bind, run_underlying he, run_underlying hu, Result.andThen_ok, zaL hsz, List.getElem?_toArray, List.getElem?_cons_zero, List.getElem?_cons_succ, Sem.run_pure, Bool.false_eq_true, if_false, hl, hfit, if_true, Bool.not_false, hf]
       cases base with
       | none => simp only [zea] at hst; subst hst; rfl
       | some a => simp only [zea] at hst; simp only [Sem.run_bind, hst, Result.andThen_ok, Sem.run_pure])
 | zeros t1 k k' lz z i ht hi hl0 hl1 hl2 hn hz hzs hnew =>
  have hwl : IntKind.i64.wrap lz = lz := by simp only [IntKind.wrap, IntKind.bits, IntKind.signed]; simp; omega
  have hti : ∀ w, (typeInfo e).run P w = .ok i w := fun w => by simp [typeInfo, hi]
  have hpos : n * sz ≠ 0 → Builtin.zeroCells z.cells n = new.toArray := by
   intro h
   have : 0 < z.cells.size := by rw [hzs]; exact Nat.pos_of_ne_zero fun e => h (by simp [e])
   have hrep := zff z.cells this n
   apply Array.ext'
   rw [hnew, ← hrep]; rfl
  have hnil : n * sz = 0 → new = [] := by
   intro h
   have : new.length = n * sz := by rw [hnew]; simp [hzs]
   exact List.eq_nil_of_length_eq_zero (by omega)
  have hno1 : ¬ (lz < 0) := by omega
  have hno2 : ¬ (lz * (i.bytes : Int) > 2 ^ 48) := by omega
  simp only [Builtin.append_, h0, hxt, Sem.run_bind, run_underlying he, run_underlying ht, Result.andThen_ok, zaL hsz, List.getElem?_toArray, List.getElem?_cons_zero, List.getElem?_cons_succ, Sem.run_pure, if_true, asInt, asIntOf, hwl, hno1, if_false, hti, hno2, ← hn, hfit, Bool.not_true, Bool.false_eq_true, Sem.run_ite]
  by_cases hz0 : n * sz = 0
  · simp only [hz0, if_true, Sem.run_pure, Result.andThen_ok]
    rw [hnil hz0] at hst
    cases base with
    | none => simp only [zea] at hst; subst hst; rfl
    | some a => simp only [zea] at hst; simp only [Sem.run_bind, hst, Result.andThen_ok, Sem.run_pure]
  · simp only [hz0, if_false, Sem.run_bind, hz, Result.andThen_ok, Sem.run_pure, hpos hz0]
    cases base with
    | none => simp only [zea] at hst; subst hst; rfl
    | some a => simp only [zea] at hst; simp only [Sem.run_bind, hst, Result.andThen_ok, Sem.run_pure]

theorem zmV (newLen : Nat) : ∀ (r c : Nat), c < newLen → Builtin.growBy newLen r c ≤ 2 * newLen + 192
 | 0, c, h => by simp [Builtin.growBy]; omega
 | r + 1, c, h => by
  unfold Builtin.growBy
  split
  · omega
  · by_cases h2 : c + (c + 768) / 4 < newLen
    · exact zmV newLen r _ h2
    · cases r with
      | zero => simp [Builtin.growBy]; omega
      | succ r => unfold Builtin.growBy; rw [if_pos (by omega)]; omega

theorem zqb (need old : Nat) (h : old < need) : Builtin.nextslicecap need old ≤ 2 * need + 192 := by
 unfold Builtin.nextslicecap
 split
 · omega
 · split
   · omega
   · exact zmV need 4 old h

def zo6 (P : Program) (w : World) (sz l : Nat) (old : List Value) : Option Addr → Prop
 | some a => (loadCells a (l * sz)).run P w = .ok old.toArray w
 | none => old = []

theorem zuC {t e ty : TypeId} {ats : Array TypeId} {base : Option Addr} {l c sz n : Nat} {x : Value} {old new : List Value} {i : TypeInfo} {z : Value} (h0 : ats[0]? = some t) (he : P.underlying t = some (.slice e)) (hsz : zbE P e = some sz)
 (hi : P.info? e = some i) (hz : ∀ w, (zeroValue e).run P w = .ok z w)
 (hs : SrcR P w.drew e sz n new ats[1]? x) (hold : zo6 P w.drew sz l old base) (hfit : c < l + n) (hb : (2 * (l + n) + 200) * i.bytes ≤ 281474976710656) (hmax : l + n ≤ 70368744177664) :
 ∃ cap', l + n ≤ cap' ∧ (Builtin.append_ ats ty #[.slice base l c, x]).run P w =
  .ok (.slice (some ⟨w.heap.size, 0, none⟩) (l + n) cap') (w.drew.alloc (.cells (old.toArray ++ new.toArray ++ Builtin.zeroCells z.cells (cap' - (l + n))) e)) := by
 have hti : ∀ w, (typeInfo e).run P w = .ok i w := fun w => by simp [typeInfo, hi]
 have hno0 : ¬ (l + n ≤ c) := by omega
 have hno3 : ¬ (((l + n : Nat) : Int) > IntKind.i64.max ∧ (false = true ∨ i.bytes = 0)) := by
  rintro ⟨h1, _⟩
  have : IntKind.i64.max = 9223372036854775807 := by rfl
  omega
 have hno3' : ¬ (((l + n : Nat) : Int) > IntKind.i64.max ∧ (true = true ∨ i.bytes = 0)) := by
  rintro ⟨h1, _⟩
  have : IntKind.i64.max = 9223372036854775807 := by rfl
  omega
 have hno4 : ¬ (Builtin.nextslicecap (l + n) c * i.bytes > 2 ^ 48) := by
  have h1 := zqb (l + n) c hfit
  have h2 : Builtin.nextslicecap (l + n) c * i.bytes ≤ (2 * (l + n) + 200) * i.bytes := Nat.mul_le_mul_right _ (by omega)
  omega
 have hq : (Question.appendCap (l + n) c e).forced = false := rfl
 refine ⟨l + n + w.tape w.drawn (.appendCap (l + n) c e) % (2 ^ 63 - (l + n)), by omega, ?_⟩
 have hcut : (Question.appendCap (l + n) c e).cut (w.tape w.drawn (.appendCap (l + n) c e)) = l + n + w.tape w.drawn (.appendCap (l + n) c e) % (2 ^ 63 - (l + n)) := rfl
 have hch : (choose (.appendCap (l + n) c e)).run P w = .ok (l + n + w.tape w.drawn (.appendCap (l + n) c e) % (2 ^ 63 - (l + n))) w.drew := by
  rw [run_choose, hq, hcut]; rfl
 generalize l + n + w.tape w.drawn (.appendCap (l + n) c e) % (2 ^ 63 - (l + n)) = cap' at hch ⊢
 have hold' : (Builtin.firstCells sz l (.slice base l c)).run P w.drew = .ok old.toArray w.drew := by
  cases base with
  | none => simp only [zo6] at hold; subst hold; rfl
  | some a => exact hold
 generalize hxt : ats[1]? = xt at hs
 cases hs with
 | row _ _ hz1 hl hf =>
  have go : ∀ zb : Bool, ∀ (hzb : zb = false), True := fun _ _ => trivial
  cases xt with
  | none =>
   simp only [Builtin.append_, h0, hxt, Sem.run_bind, run_underlying he, Result.andThen_ok, zaL hsz, List.getElem?_toArray, List.getElem?_cons_zero, List.getElem?_cons_succ, Sem.run_pure, Bool.false_eq_true, if_false, hl, hno0, Bool.not_false, if_true,
    hti, Sem.run_ite, hno4, hch, run_askRoom, hold', hf, hz, newRow, run_newObj_alloc]
   simp
   intro h1; omega
  | some xt =>
   obtain ⟨d, hu, hd⟩ := hz1 xt rfl
   cases d <;> first
    | exact absurd rfl (hd _)
    | (simp only [Builtin.append_, h0, hxt, Sem.run_bind, run_underlying he, run_underlying hu, Result.andThen_ok, zaL hsz, List.getElem?_toArray, List.getElem?_cons_zero, List.getElem?_cons_succ, Sem.run_pure, Bool.false_eq_true, if_false, hl, hno0, Bool.not_false, if_true,
     hti, Sem.run_ite, hno4, hch, run_askRoom, hold', hf, hz, newRow, run_newObj_alloc]
       simp
       intro h1; omega)
 | zeros t1 k k' lz z' i' ht hi' hl0 hl1 hl2 hn hz' hzs hnew =>
  have hii : i' = i := by rw [hi] at hi'; simpa using hi'.symm
  subst hii
  have hzz : z' = z := by have := hz w.drew; rw [this] at hz'; simpa using hz'.symm
  subst hzz
  have hwl : IntKind.i64.wrap lz = lz := by simp only [IntKind.wrap, IntKind.bits, IntKind.signed]; simp; omega
  have hpos : n * sz ≠ 0 → Builtin.zeroCells z'.cells n = new.toArray := by
   intro h
   have : 0 < z'.cells.size := by rw [hzs]; exact Nat.pos_of_ne_zero fun e => h (by simp [e])
   have hrep := zff z'.cells this n
   apply Array.ext'
   rw [hnew, ← hrep]; rfl
  have hnil : n * sz = 0 → new = [] := by
   intro h
   have : new.length = n * sz := by rw [hnew]; simp [hzs]
   exact List.eq_nil_of_length_eq_zero (by omega)
  have hno1 : ¬ (lz < 0) := by omega
  have hno2 : ¬ (lz * (i'.bytes : Int) > 2 ^ 48) := by omega
  simp only [Builtin.append_, h0, hxt, Sem.run_bind, run_underlying he, run_underlying ht, Result.andThen_ok, zaL hsz, List.getElem?_toArray, List.getElem?_cons_zero, List.getElem?_cons_succ, Sem.run_pure, if_true, asInt, asIntOf, hwl, hno1, if_false, hti, hno2, ← hn, hno0, Bool.not_true, Bool.false_eq_true, Sem.run_ite,
   hno4, hch, run_askRoom, hold', newRow, run_newObj_alloc]
  by_cases hz0 : n * sz = 0
  · simp only [hz0, if_true, Sem.run_pure, Result.andThen_ok, hz]
    rw [hnil hz0]
    simp
    intro h1; omega
  · simp only [hz0, if_false, Sem.run_bind, hz, Result.andThen_ok, Sem.run_pure, hpos hz0]
    simp
    intro h1; omega

theorem Rel.alone (R : Rel W0 σ h w) {i : Nat} {b b' : ABlk} {p : Plc} (hb : h[i]? = some b) (hp : σ[i]? = some p) (hm : b.mine = true) (hro : b.isRo = false) {j : Nat} {c : ABlk} {q : Plc} (hj : j ≠ i)
 (hc : ((zc4 h b.par).set i b')[j]? = some c) (hmc : c.mine = true) (hq : σ[j]? = some q) : q.blk ≠ p.blk := by
 rw [List.getElem?_set_ne (fun e => hj e.symm)] at hc
 rcases zg7 hc with rfl | ⟨h1, h2⟩
 · simp [ABlk.mine] at hmc
 · intro e
   rcases R.sep (Ne.symm hj) hb h1 hp hq hm hmc e.symm with ⟨h3, _⟩ | ⟨_, h3⟩
   · exact h2 h3
   · rw [hro] at h3; cases h3

theorem Rel.alias (R : Rel W0 σ h w) {i : Nat} {vs : List AV} {e : Nat} {p q : Plc} {b : ABlk} (hb : h[i]? = some (.cells vs e .ro none)) (hp : σ[i]? = some p) (hq : q.blk = p.blk) (hpar : b.par = some i) (hm : b.mine = true) (hmi : (ABlk.cells vs e .ro none).mine = true)
 (halone : ∀ {j : Nat} {c : ABlk} {r : Plc}, j ≠ i → h[j]? = some c → c.mine = true → σ[j]? = some r → r.blk ≠ p.blk) (ho : ObjR (σ ++ [q]) q w b) :
 Rel W0 (σ ++ [q]) (h ++ [b]) w ∧ Stp σ h w (σ ++ [q]) (h ++ [b]) w := by
 have key : ∀ {j : Nat} {b' : ABlk} {r : Plc}, (h ++ [b])[j]? = some b' → (σ ++ [q])[j]? = some r → (h[j]? = some b' ∧ σ[j]? = some r) ∨ (j = h.length ∧ b' = b ∧ r = q) := by
  intro j b' r h1 h2
  rcases Nat.lt_or_ge j h.length with hi | hi
  · rw [List.getElem?_append_left hi] at h1
    rw [List.getElem?_append_left (by rw [R.len]; exact hi)] at h2
    exact .inl ⟨h1, h2⟩
  · have hi' := (List.getElem?_eq_some_iff.1 h1).1
    simp at hi'
    have e : j = h.length := by omega
    subst e
    rw [List.getElem?_append_right (by simp)] at h1
    rw [List.getElem?_append_right (by rw [R.len]; simp)] at h2
    simp [R.len] at h1 h2
    exact .inr ⟨rfl, h1.symm, h2.symm⟩
 have him : i < h.length := (List.getElem?_eq_some_iff.1 hb).1
 have hown := R.own hb hp hmi
 refine ⟨⟨by simp [R.len], ?_, ?_, ?_, ?_, R.below⟩, ⟨⟨_, rfl⟩, ?_, fun _ _ _ => rfl, Nat.le_refl _⟩⟩
 · intro j b' r h1 h2
   rcases key h1 h2 with ⟨h1, h2⟩ | ⟨rfl, rfl, rfl⟩
   · exact (R.obj h1 h2).grow _
   · exact ho
 · intro j vs e par r h1 h2
   rcases key h1 h2 with ⟨h1, h2⟩ | ⟨rfl, rfl, rfl⟩
   · exact R.far h1 h2
   · have := (zbp hm).2; simp at this
 · intro j b' r h1 h2 hb'
   rcases key h1 h2 with ⟨h1, h2⟩ | ⟨rfl, rfl, rfl⟩
   · exact R.own h1 h2 hb'
   · rw [hq]; exact hown
 · intro j k b1 b2 r s hjk h1 h2 h3 h4 hb1 hb2 hrs
   rcases key h1 h3 with ⟨k1, k3⟩ | ⟨e1, e2, e3⟩
   · rcases key h2 h4 with ⟨k2, k4⟩ | ⟨f1, f2, f3⟩
     · exact R.sep hjk k1 k2 k3 k4 hb1 hb2 hrs
     · rw [f3, hq] at hrs
       by_cases hji : j = i
       · subst hji
         rw [hb] at k1; simp at k1; subst k1
         exact .inr ⟨by rw [f2]; exact hpar, rfl⟩
       · exact absurd hrs (halone hji k1 hb1 k3)
   · rcases key h2 h4 with ⟨k2, k4⟩ | ⟨f1, f2, f3⟩
     · rw [e3, hq] at hrs
       by_cases hki : k = i
       · subst hki
         rw [hb] at k2; simp at k2; subst k2
         exact .inl ⟨by rw [e2]; exact hpar, rfl⟩
       · exact absurd hrs.symm (halone hki k2 hb2 k4)
     · exact absurd (e1.trans f1.symm) hjk
 · rintro x ⟨j, b', r, h1, h2, h3, rfl⟩
   rcases key h1 h2 with ⟨h1, h2⟩ | ⟨rfl, rfl, rfl⟩
   · exact .inl ⟨j, b', r, h1, h2, h3, rfl⟩
   · exact .inl ⟨i, _, p, hb, hp, hmi, hq.symm⟩

theorem zgZ : ∀ (ys C : List Value) (o n : Nat), n ≤ o → (ziw C o ys).take n = C.take n
 | [], _, _, _, _ => rfl
 | y :: ys, C, o, n, hn => by
  rw [ziw, zgZ ys _ (o + 1) n (by omega), List.take_set]
  rw [List.set_eq_of_length_le (by simp; omega)]

theorem zmb : ∀ (ys C : List Value) (o : Nat), o + ys.length ≤ C.length → ((ziw C o ys).drop o).take ys.length = ys
 | [], C, o, h => by simp
 | y :: ys, C, o, h => by
  have hl : o < C.length := by simp at h; omega
  rw [ziw]
  have ih := zmb ys (C.set o y) (o + 1) (by simp at h ⊢; omega)
  have hget : (ziw (C.set o y) (o + 1) ys)[o]? = some y := by
   have : ((ziw (C.set o y) (o + 1) ys).take (o + 1))[o]? = ((C.set o y).take (o + 1))[o]? := by rw [zgZ ys _ (o + 1) (o + 1) (Nat.le_refl _)]
   simp [List.getElem?_take] at this
   rw [this]; simp [hl]
  have hlen : o < (ziw (C.set o y) (o + 1) ys).length := by rw [zdp]; simpa using hl
  rw [List.drop_eq_getElem_cons hlen, List.length_cons, List.take_succ_cons, ih]
  congr 1
  rw [List.getElem?_eq_getElem hlen] at hget
  simpa using hget

theorem Rel.pushVoid (R : Rel W0 σ h w) (e : Nat) (par : Option Nat) (p : Plc) (hs : p.spare = 0) :
 Rel W0 (σ ++ [p]) (h ++ [.cells [] e .own par]) w ∧ Stp σ h w (σ ++ [p]) (h ++ [.cells [] e .own par]) w := by
 have key : ∀ {j : Nat} {b' : ABlk} {r : Plc}, (h ++ [ABlk.cells [] e .own par])[j]? = some b' → (σ ++ [p])[j]? = some r → (h[j]? = some b' ∧ σ[j]? = some r) ∨ (b' = .cells [] e .own par ∧ r = p) := by
  intro j b' r h1 h2
  rcases Nat.lt_or_ge j h.length with hi | hi
  · rw [List.getElem?_append_left hi] at h1
    rw [List.getElem?_append_left (by rw [R.len]; exact hi)] at h2
    exact .inl ⟨h1, h2⟩
  · have hi' := (List.getElem?_eq_some_iff.1 h1).1
    simp at hi'
    have e : j = h.length := by omega
    subst e
    rw [List.getElem?_append_right (by simp)] at h1
    rw [List.getElem?_append_right (by rw [R.len]; simp)] at h2
    simp [R.len] at h1 h2
    exact .inr ⟨h1.symm, h2.symm⟩
 refine ⟨⟨by simp [R.len], fun h1 h2 => ?_, fun h1 h2 hvs => ?_, fun h1 h2 hm => ?_, fun hij h1 h2 h3 h4 m1 m2 => ?_, R.below⟩, ⟨⟨_, rfl⟩, ?_, fun _ _ _ => rfl, Nat.le_refl _⟩⟩
 · rcases key h1 h2 with ⟨h1, h2⟩ | ⟨rfl, rfl⟩
   · exact (R.obj h1 h2).grow _
   · exact .inl ⟨rfl, fun _ => hs⟩
 · rcases key h1 h2 with ⟨h1, h2⟩ | ⟨e1, rfl⟩
   · exact R.far h1 h2 hvs
   · cases e1
 · rcases key h1 h2 with ⟨h1, h2⟩ | ⟨rfl, rfl⟩
   · exact R.own h1 h2 hm
   · simp [ABlk.mine] at hm
 · rcases key h1 h3 with ⟨k1, k3⟩ | ⟨rfl, _⟩
   · rcases key h2 h4 with ⟨k2, k4⟩ | ⟨rfl, _⟩
     · exact R.sep hij k1 k2 k3 k4 m1 m2
     · simp [ABlk.mine] at m2
   · simp [ABlk.mine] at m1
 · rintro x ⟨i, b', q, h1, h2, h3, rfl⟩
   rcases key h1 h2 with ⟨h1, h2⟩ | ⟨rfl, rfl⟩
   · exact .inl ⟨i, b', q, h1, h2, h3, rfl⟩
   · simp [ABlk.mine] at h3

theorem Rel.retire (R : Rel W0 σ h w) {i : Nat} {vs : List AV} {e : Nat} {par : Option Nat} {p : Plc} (hb : h[i]? = some (.cells vs e .own par)) (hp : σ[i]? = some p) :
 Rel W0 σ ((zc4 h par).set i (.cells vs e .ro none)) w ∧ Stp σ h w σ ((zc4 h par).set i (.cells vs e .ro none)) w := by
 have hi : i < h.length := (List.getElem?_eq_some_iff.1 hb).1
 by_cases hvs : vs = []
 · subst hvs
   have key : ∀ {j : Nat} {c : ABlk}, ((zc4 h par).set i (.cells [] e .ro none))[j]? = some c → c = .cells [] e .ro none ∨ c = .dead ∨ h[j]? = some c := by
    intro j c hc
    rw [List.getElem?_set] at hc
    by_cases e : i = j
    · subst e
      rw [if_pos rfl, if_pos (by rw [zbw]; exact hi)] at hc
      exact .inl (by simpa using hc.symm)
    · rw [if_neg e] at hc
      rcases zg7 hc with h1 | ⟨h1, _⟩
      · exact .inr (.inl h1)
      · exact .inr (.inr h1)
   refine ⟨⟨by simp [zbw, R.len], fun h1 h2 => ?_, fun h1 h2 hvs => ?_, fun h1 h2 hm => ?_, fun hij h1 h2 h3 h4 m1 m2 => ?_, R.below⟩, ⟨⟨[], by simp⟩, ?_, fun _ _ _ => rfl, Nat.le_refl _⟩⟩
   · rcases key h1 with rfl | rfl | h1
     · exact .inl ⟨rfl, fun h => by cases h⟩
     · trivial
     · exact R.obj h1 h2
   · rcases key h1 with e1 | e1 | h1
     · cases e1
     · cases e1
     · exact R.far h1 h2 hvs
   · rcases key h1 with rfl | rfl | h1
     · simp [ABlk.mine] at hm
     · simp [ABlk.mine] at hm
     · exact R.own h1 h2 hm
   · rcases key h1 with rfl | rfl | h1
     · simp [ABlk.mine] at m1
     · simp [ABlk.mine] at m1
     · rcases key h2 with rfl | rfl | h2
       · simp [ABlk.mine] at m2
       · simp [ABlk.mine] at m2
       · exact R.sep hij h1 h2 h3 h4 m1 m2
   · rintro x ⟨j, c, q, h1, h2, h3, rfl⟩
     rcases key h1 with rfl | rfl | h1
     · simp [ABlk.mine] at h3
     · simp [ABlk.mine] at h3
     · exact .inl ⟨j, c, q, h1, h2, h3, rfl⟩
 · rcases R.obj hb hp with ⟨h0, _⟩ | ⟨_, c, t, fr, b1, b2, b3⟩
   · exact absurd h0 hvs
   · exact R.modify (w' := w) (b' := .cells vs e .ro none) hb hp (zen hvs (by simp)) rfl rfl (fun _ _ => rfl) rfl R.below (.inr ⟨hvs, c, t, fr, b1, b2, fun h => by cases h⟩)

end Go.Abs

end

section
/- append, whole. -/
set_option autoImplicit false
set_option linter.unusedVariables false
set_option linter.unusedSimpArgs false
namespace Go.Abs

theorem zn7 (ys L : List Value) (a : Nat) (hl : L.length = a + ys.length) : ziw L a ys = L.take a ++ ys := by
 have h1 := zgZ ys L a a (Nat.le_refl _)
 have h2 := zmb ys L a (by omega)
 have h3 : ((ziw L a ys).drop a).length = ys.length := by rw [List.length_drop, zdp]; omega
 rw [List.take_of_length_le (by omega)] at h2
 rw [← h1]
 conv => lhs; rw [← List.take_append_drop a (ziw L a ys), h2]

variable {P : Program} {W0 : World} {σ : Sig} {h : zaa} {w : World}

theorem zqh (R : Rel W0 σ h w) {ats : Array TypeId} {ty : TypeId} {s x v : AV} {s' x' : Value} {h' : zaa} (hs : VR σ s s') (hx : VR σ x x') (ha : zhK P h ats.toList s x = some (v, h')) :
 SimV W0 σ h w ((Builtin.append_ ats ty #[s', x']).run P w) v h' := by
 unfold zhK at ha
 split at ha
 · rename_i e base len cap ex he0
   simp only [Option.bind_eq_some_iff] at he0
   obtain ⟨t, ht, he⟩ := he0
   have h0 : ats[0]? = some t := by rw [← Array.getElem?_toList]; exact ht
   have hu := zcD he
   split at ha
   · rename_i sz1 by_ hsz hby
     simp only [Nat.succ_eq_add_one] at hsz ha
     have hby0 := hby
     unfold zg2 at hby0
     simp only [Option.map_eq_some_iff] at hby0
     obtain ⟨ti, hti, rfl⟩ := hby0
     simp only [Option.bind_eq_some_iff] at ha
     obtain ⟨⟨n, new⟩, hsrc, ha⟩ := ha
     rw [Array.getElem?_toList] at hsrc
     simp only at ha
     split at ha
     · rename_i hbig
       obtain ⟨hbg, hzs, hmax⟩ := hbig
       simp only [zsx, Option.map_eq_some_iff, Option.bind_eq_some_iff] at hzs
       obtain ⟨zc, ⟨z, hz, hzc⟩, hzl⟩ := hzs
       have hzrun : ∃ zv, (∀ w, (zeroValue e).run P w = .ok zv w) ∧ VR σ z zv := by
        unfold ze7 at hz
        simp only [Option.map_eq_some_iff, Option.bind_eq_some_iff] at hz
        obtain ⟨v, ⟨i, hi, hv⟩, rfl⟩ := hz
        exact ⟨v, fun w => by simp [zeroValue, typeInfo, hi, hv], zq6 σ v⟩
       obtain ⟨zv, hz1, hz2⟩ := hzrun
       have hzsz : zv.cells.size = sz1 + 1 := by rw [← Array.length_toList, ← (zcN hz2 hzc).length, hzl]
       have hzlen : ∀ k, (Builtin.zeroCells zv.cells k).size = k * (sz1 + 1) := fun k => by simp [Builtin.zeroCells, hzsz]
       -- a new block, whatever is told of who shares it
       have fresh : ∀ {h1 : zaa} {old : List AV} {old' : List Value} {c' : Nat} {a : Option Addr} (par : Option Nat), Rel W0 σ h1 w → h1.length = h.length → VRs σ old old' → zo6 P w.drew (sz1 + 1) len old' a → old'.length = len * (sz1 + 1) → c' < len + n →
        ∃ σ' w' v', (Builtin.append_ ats ty #[.slice a len c', x']).run P w = .ok v' w' ∧ Stp σ h1 w σ' (h1 ++ [.cells (old ++ new) (sz1 + 1) .own par]) w' ∧ Rel W0 σ' (h1 ++ [.cells (old ++ new) (sz1 + 1) .own par]) w' ∧
         VR σ' (.sl (some (h.length, 0)) (len + n) 0 false) v' := by
        intro h1 old old' c' a par R1 hlen ho hoa hol hc'
        obtain ⟨new', hn1, hn2, hn3⟩ := zjC R.drew hx hsz hby hsrc
        obtain ⟨cap', hcap, hrun⟩ := zuC (ty := ty) h0 hu hsz hti hz1 hn3 hoa hc' hbg hmax
        have hv : VRs σ (old ++ new) (old' ++ new') := ho.append hn1
        have hvl := hv.length
        have hxl : (old ++ new).length = (len + n) * (sz1 + 1) := by rw [hvl, List.length_append, hol, hn2, Nat.add_mul]
        have hne : old ++ new ≠ [] := by
         intro h0
         rw [h0] at hxl
         have : 0 < (len + n) * (sz1 + 1) := Nat.mul_pos (by omega) (by omega)
         simp at hxl; omega
        have hcs : (old'.toArray ++ new'.toArray ++ Builtin.zeroCells zv.cells (cap' - (len + n))).size = (len + n) * (sz1 + 1) + (cap' - (len + n)) * (sz1 + 1) := by
         simp only [Array.size_append, List.size_toArray, hol, hn2, hzlen, Nat.add_mul]
        have hpush := R1.drew.push (.cells (old'.toArray ++ new'.toArray ++ Builtin.zeroCells zv.cells (cap' - (len + n))) e) (.cells (old ++ new) (sz1 + 1) .own par) (cap' - (len + n)) rfl
         (.inr ⟨hne, _, _, (0, 0), World.alloc_heap_new _ _, by
          have : ((old'.toArray ++ new'.toArray ++ Builtin.zeroCells zv.cells (cap' - (len + n))).toList.drop 0).take (old ++ new).length = old' ++ new' := by
           rw [List.drop_zero]
           simp only [Array.toList_append, List.append_assoc]
           rw [← List.append_assoc, List.take_append_of_le_length (by rw [hvl]; exact Nat.le_refl _), hvl, List.take_length]
          rw [this]; exact hv.grow _, fun _ => ⟨fun j _ _ => by simp, by simp only [hxl, hcs]; omega⟩⟩)
        refine ⟨_, _, _, hrun, (Stp.drew σ h1 w).trans hpush.2, hpush.1, .sl _ _ _ _ _ ⟨w.heap.size, 0, cap' - (len + n)⟩ _ _ ?_ hcap (by simp [zai]; omega) (.inl (by simp))⟩
        rw [← hlen]; exact R1.newAt _
       -- nothing was there, and no room
       have empty : len = 0 → (s' = .slice none 0 0 ∨ ∃ ad, s' = .slice (some ad) 0 0) → h' = h ++ [.cells new (sz1 + 1) .own none] → v = .sl (some (h.length, 0)) n 0 false → SimV W0 σ h w ((Builtin.append_ ats ty #[s', x']).run P w) v h' := by
        intro hl0 hs0 e1 e2
        subst hl0 e1 e2
        by_cases hn0 : n = 0
        · subst hn0
          obtain ⟨new', hn1, hn2, hn3⟩ := zjC R hx hsz hby hsrc
          have hnn : new' = [] := List.eq_nil_of_length_eq_zero (by simpa using hn2)
          subst hnn
          have hnw : new = [] := List.eq_nil_of_length_eq_zero (by rw [hn1.length]; rfl)
          subst hnw
          have A := R.pushVoid (sz1 + 1) none ⟨w.heap.size, 0, 0⟩ rfl
          rcases hs0 with rfl | ⟨ad, rfl⟩
          · exact ⟨_, w, _, zgH (w' := w) h0 hu hsz hn3 (Nat.le_refl _) rfl, A.2, A.1, .sln _ _ _ (R.newAt _) rfl⟩
          · exact ⟨_, w, _, zgH (w' := w) h0 hu hsz hn3 (Nat.le_refl _) (by simp [zea, storeCells]), A.2, A.1, .sl _ _ _ _ _ _ _ _ (R.newAt _) (Nat.le_refl _) rfl (.inr rfl)⟩
        · rcases hs0 with rfl | ⟨ad, rfl⟩
          · obtain ⟨σ', w', v', f1, f2, f3, f4⟩ := fresh (old := []) (old' := []) (a := none) (c' := 0) none R rfl .nil rfl (by simp) (by omega)
            simp only [Nat.zero_add, List.nil_append] at f2 f3 f4
            exact ⟨σ', w', v', f1, f2, f3, f4⟩
          · obtain ⟨σ', w', v', f1, f2, f3, f4⟩ := fresh (old := []) (old' := []) (a := some ad) (c' := 0) none R rfl .nil (by simp [zo6, loadCells, loadCellsFrom]) (by simp) (by omega)
            simp only [Nat.zero_add, List.nil_append] at f2 f3 f4
            exact ⟨σ', w', v', f1, f2, f3, f4⟩
       -- in place
       have inplace : ∀ {i o r : Nat} {p : Plc} {ad : Addr} {c' : Nat}, s' = .slice (some ad) len c' → σ[i]? = some p → (ad = ⟨p.blk, p.off + o, none⟩ ∨ c' = 0) → len + n ≤ c' → c' = zai (len + n) r ex + (if ex then 0 else p.spare) →
        (if n = 0 then some (AV.sl (some (i, o)) (len + n) r ex, h) else (putAt h i (o + len * (sz1 + 1)) new).map fun h' => (.sl (some (i, o)) (len + n) r ex, h')) = some (v, h') → SimV W0 σ h w ((Builtin.append_ ats ty #[s', x']).run P w) v h' := by
        intro i o r p ad c' hs0 hp hadr hfit hc ha
        subst hs0
        obtain ⟨new', hn1, hn2, hn3⟩ := zjC R hx hsz hby hsrc
        split at ha
        · rename_i hn0
          simp at ha
          obtain ⟨rfl, rfl⟩ := ha
          subst hn0
          have : new' = [] := List.eq_nil_of_length_eq_zero (by simpa using hn2)
          subst this
          exact SimV.still R (zgH (w' := w) h0 hu hsz hn3 hfit (by simp [zea, storeCells])) (.sl i o _ _ _ p _ _ hp hfit hc hadr)
        · rename_i hn0
          simp only [Option.map_eq_some_iff] at ha
          obtain ⟨h1, hput, ha⟩ := ha
          simp at ha
          obtain ⟨rfl, rfl⟩ := ha
          obtain rfl := hadr.resolve_right (by omega)
          have hne : new ≠ [] := by
           rintro rfl
           have h1 := hn1.length
           have : 0 < n * (sz1 + 1) := Nat.mul_pos (by omega) (by omega)
           simp at h1; omega
          obtain ⟨w', e1, e2, e3⟩ := R.putAt (P := P) hput hne hp hn1
          exact ⟨σ, w', _, zgH h0 hu hsz hn3 hfit (by simp only [zea, zde, Nat.add_assoc]; exact e1), e3, e2, .sl i o _ _ _ p _ _ hp hfit hc (.inl rfl)⟩
       split at ha
       · -- nil
         split at ha
         · rename_i hl0
           simp only [Option.some.injEq, Prod.mk.injEq] at ha
           obtain ⟨rfl, rfl⟩ := ha
           cases hs
           exact empty rfl (.inl rfl) rfl rfl
         · simp at ha
       · rename_i i o
         -- what was there, read behind the draw
         have hold2 : ∀ {old : List AV} {p : Plc} {ad : Addr} {c' : Nat}, cellsAt h i o (len * (sz1 + 1)) = some old → σ[i]? = some p → (ad = ⟨p.blk, p.off + o, none⟩ ∨ c' = 0) → len ≤ c' →
          ∃ old' : List Value, VRs σ old old' ∧ old'.length = len * (sz1 + 1) ∧ zo6 P w.drew (sz1 + 1) len old' (some ad) ∧ (∀ j v, old'[j]? = some v → w.cell? ⟨p.blk, p.off + o + j, none⟩ = some v) := by
          intro old p ad c' hold hp hadr hlc
          by_cases h00 : len = 0
          · subst h00
            obtain ⟨vs, k1, k2, _⟩ := R.cellsAt hold hp
            simp at k1
            subst k1
            exact ⟨[], k2, by simp, by simp [zo6, loadCells, loadCellsFrom], by simp⟩
          · obtain rfl := hadr.resolve_right (by omega)
            obtain ⟨vs, k1, k2, k3⟩ := R.cellsAt hold hp
            have := run_loadCells_list (P := P) w.drew ⟨p.blk, p.off + o, none⟩ vs (fun j v hj => by rw [zde]; exact k3 j v hj)
            rw [k1] at this
            exact ⟨vs, k2, k1, this, k3⟩
         split at ha
         · -- just so much room
           split at ha
           · rename_i hcap
             subst hcap
             split at ha
             · rename_i hl0
               simp only [Option.some.injEq, Prod.mk.injEq] at ha
               obtain ⟨rfl, rfl⟩ := ha
               cases hs with
               | sl _ _ _ _ _ p ad c' hp hl hc hadr =>
                simp [zai] at hc
                subst hc
                subst hl0
                exact empty rfl (.inr ⟨_, rfl⟩) rfl rfl
             · simp at ha
           · rename_i hcap
             cases hs with
             | sl _ _ _ _ _ p ad c' hp hl hc hadr =>
             simp [zai] at hc
             subst hc
             split at ha
             · rename_i hfit
               exact inplace rfl hp hadr hfit (by simp [zai]) ha
             · rename_i hfit
               simp only [Option.map_eq_some_iff] at ha
               obtain ⟨old, hold, ha⟩ := ha
               simp only [Prod.mk.injEq] at ha
               obtain ⟨rfl, rfl⟩ := ha
               obtain ⟨old', ho1, ho2, ho3, ho4⟩ := hold2 hold hp hadr hl
               exact fresh none R rfl ho1 ho3 ho2 (by omega)
         · split at ha
           · -- it is filled
             rename_i hcap
             subst hcap
             simp only [Option.bind_eq_some_iff] at ha
             obtain ⟨old, hold, ha⟩ := ha
             unfold zkj at ha
             split at ha
             · rename_i vs e' par hb
               split at ha
               · rename_i hcnd
                 obtain ⟨_, hc2, hcn, hc3, hc4⟩ := hcnd
                 subst hc3
                 simp only [Option.some.injEq, Prod.mk.injEq] at ha
                 obtain ⟨rfl, rfl⟩ := ha
                 have hi : i < h.length := (List.getElem?_eq_some_iff.1 hb).1
                 cases hs with
                 | sln _ _ p hp hc =>
                  have M := R.retire hb hp
                  simp at hc2
                  by_cases hn0 : n = 0
                  · subst hn0
                    have ho0 : o = 0 := by omega
                    subst ho0
                    have hvs : vs = [] := List.eq_nil_of_length_eq_zero hc2.symm
                    subst hvs
                    obtain ⟨new', hn1, hn2, hn3⟩ := zjC R hx hsz hby hsrc
                    have hnn : new' = [] := List.eq_nil_of_length_eq_zero (by simpa using hn2)
                    subst hnn
                    have hnw : new = [] := List.eq_nil_of_length_eq_zero (by rw [hn1.length]; rfl)
                    subst hnw
                    have hol : old = [] := by
                     obtain ⟨vs, k1, k2, _⟩ := R.cellsAt hold hp
                     exact List.eq_nil_of_length_eq_zero (by rw [k2.length, k1]; simp)
                    subst hol
                    have A := M.1.pushVoid (sz1 + 1) (some i) ⟨w.heap.size, 0, 0⟩ rfl
                    have e1 : ((zc4 h par).set i (ABlk.cells [] (sz1 + 1) Md.ro none)).length = h.length := by simp [zbw]
                    exact ⟨_, w, _, zgH (w' := w) h0 hu hsz hn3 (Nat.le_refl _) rfl, M.2.trans A.2, A.1, .sln _ _ _ (by rw [← e1]; exact M.1.newAt _) rfl⟩
                  · have hol : old = [] := by
                      obtain ⟨vs, k1, k2, _⟩ := R.cellsAt hold hp
                      exact List.eq_nil_of_length_eq_zero (by rw [k2.length, k1]; simp)
                    subst hol
                    obtain ⟨σ', w', v', f1, f2, f3, f4⟩ := fresh (old := []) (old' := []) (a := none) (c' := 0) (some i) M.1 (by simp [zbw]) .nil rfl (by simp) (by omega)
                    exact ⟨σ', w', v', f1, M.2.trans f2, f3, f4⟩
                 | sl _ _ _ _ _ p ad c' hp hl hc hadr =>
                 simp [zai] at hc
                 obtain ⟨old', ho1, ho2, ho3, ho4⟩ := hold2 hold hp hadr hl
                 have hnb : (ABlk.cells vs (sz1 + 1) Md.own par).par = par := rfl
                 by_cases hin : len + n ≤ c'
                 · obtain ⟨new', hn1, hn2, hn3⟩ := zjC R hx hsz hby hsrc
                   rcases R.obj hb hp with ⟨hv0, hsp⟩ | ⟨hne, c, tt, fr, b1, b2, b3⟩
                   · -- nothing at all
                     subst hv0
                     have hsp := hsp rfl
                     simp at hc2
                     obtain ⟨ho0, hl0⟩ := hc2
                     have hl0 : len = 0 := (Nat.mul_eq_zero.1 hl0).resolve_right (by omega)
                     subst hl0 ho0
                     have hn0 : n = 0 := by omega
                     subst hn0
                     have hnn : new' = [] := List.eq_nil_of_length_eq_zero (by simpa using hn2)
                     subst hnn
                     have hnw : new = [] := List.eq_nil_of_length_eq_zero (by rw [hn1.length]; rfl)
                     subst hnw
                     have hol : old = [] := List.eq_nil_of_length_eq_zero (by rw [ho1.length, ho2]; simp)
                     subst hol
                     have M := R.retire hb hp
                     have A := M.1.pushVoid (sz1 + 1) (some i) ⟨w.heap.size, 0, 0⟩ rfl
                     have e1 : ((zc4 h par).set i (ABlk.cells [] (sz1 + 1) Md.ro none)).length = h.length := by simp [zbw]
                     exact ⟨_, w, _, zgH (w' := w) h0 hu hsz hn3 hin (by simp [zea, storeCells]), M.2.trans A.2, A.1, .sl _ _ _ _ _ _ _ _ (by rw [← e1]; exact M.1.newAt _) hin (by simp [zai]; omega) (.inr (by omega))⟩
                   -- in the room that is there
                   obtain ⟨b4, b5⟩ := b3 rfl
                   have hposv : 0 < vs.length := List.length_pos_iff.2 hne
                   have hc0 : c' ≠ 0 := by
                    intro h0
                    have hl0 : len = 0 := by omega
                    have hn0 : n = 0 := by omega
                    subst hl0 hn0
                    simp at hc2 hcn; omega
                   obtain rfl := hadr.resolve_right hc0
                   have hbl := b2.length
                   have hspare : (len + n) * (sz1 + 1) ≤ (len + p.spare) * (sz1 + 1) := Nat.mul_le_mul_right _ (by omega)
                   have hroom : p.off + o + len * (sz1 + 1) + new'.length ≤ c.size := by
                    rw [hn2]
                    have e1 : (len + n) * (sz1 + 1) = len * (sz1 + 1) + n * (sz1 + 1) := Nat.add_mul _ _ _
                    have e2 : (len + p.spare) * (sz1 + 1) = len * (sz1 + 1) + p.spare * (sz1 + 1) := Nat.add_mul _ _ _
                    omega
                   have hst := run_storeCells_cells (P := P) p.blk (p.off + o + len * (sz1 + 1)) new' 0 w
                    (by intro j hj; simp [World.cell?, b1]; omega)
                    (by
                     intro j hj
                     have := b4 (p.off + o + len * (sz1 + 1) + 0 + j) (by omega) (by omega)
                     simp only [World.frozen?, b1, Bool.and_eq_false_iff, decide_eq_false_iff_not]
                     by_cases hx1 : fr.1 ≤ p.off + o + len * (sz1 + 1) + 0 + j
                     · exact .inr fun hy => this ⟨hx1, hy⟩
                     · exact .inl hx1)
                    (hn1.oneCells hc4)
                   simp only [Nat.add_zero] at hst
                   obtain ⟨c2, g1, g2⟩ := zc5 new' w p.blk (p.off + o + len * (sz1 + 1)) c tt fr b1
                   have g3 : c2.size = c.size := by rw [← Array.length_toList, g2, zdp, Array.length_toList]
                   have hro : ObjR σ p (w.setCells p.blk (p.off + o + len * (sz1 + 1)) new') (.cells vs (sz1 + 1) .ro none) := by
                    refine .inr ⟨hne, c2, tt, fr, g1, ?_, fun h => by cases h⟩
                    have : (c2.toList.drop p.off).take vs.length = (c.toList.drop p.off).take vs.length := by
                     rw [g2, Nat.add_assoc, zeR]
                     rw [← hc2]
                     have := zgZ new' ((c.toList.drop p.off).take (o + len * (sz1 + 1))) (o + len * (sz1 + 1)) (o + len * (sz1 + 1)) (Nat.le_refl _)
                     rw [List.take_of_length_le (by rw [zdp]; simp; omega)] at this
                     rw [this, List.take_take, Nat.min_self]
                    rw [this]; exact b2
                   have hmi := zen (e := sz1 + 1) (par := par) hne (show Md.own ≠ Md.far by simp)
                   have M := R.modify (w' := w.setCells p.blk (p.off + o + len * (sz1 + 1)) new') (b' := .cells vs (sz1 + 1) .ro none) hb hp hmi rfl rfl (fun k hk => zcS _ _ _ _ _ hk) (zfb _ _ _ _)
                    (Below.setCells _ R.below (R.own hb hp hmi) _) hro
                   have hget : ((zc4 h par).set i (.cells vs (sz1 + 1) .ro none))[i]? = some (.cells vs (sz1 + 1) .ro none) := by
                    rw [List.getElem?_set, if_pos rfl, if_pos (by rw [zbw]; exact hi)]
                   have hxl : (old ++ new).length = (len + n) * (sz1 + 1) := by rw [(ho1.append hn1).length, List.length_append, ho2, hn2, Nat.add_mul]
                   have hne2 : old ++ new ≠ [] := by
                    intro h0
                    rw [h0] at hxl
                    have hz : (len + n) * (sz1 + 1) = 0 := by simpa using hxl.symm
                    have hz : len + n = 0 := by
                     rcases Nat.mul_eq_zero.1 hz with h | h
                     · exact h
                     · omega
                    have hl0 : len = 0 := by omega
                    have hn0 : n = 0 := by omega
                    subst hl0 hn0
                    simp at hc2 hcn; omega
                   have A := M.1.alias (q := ⟨p.blk, p.off + o, c' - (len + n)⟩) (b := .cells (old ++ new) (sz1 + 1) .own (some i)) hget hp rfl rfl (zen hne2 (by simp)) (zen hne (by simp))
                    (fun hj hcj hmc hq => R.alone (b' := .cells vs (sz1 + 1) .ro none) hb hp hmi rfl hj hcj hmc hq) (by
                     refine .inr ⟨hne2, c2, tt, fr, g1, ?_, fun _ => ⟨fun j k1 k2 => b4 j (by simp at k1; omega) (by omega), ?_⟩⟩
                     · have hvl := (ho1.append hn1).length
                       have : ((c2.toList.drop (p.off + o)).take (old ++ new).length) = old' ++ new' := by
                        rw [hvl, g2, zeR, List.length_append, ho2]
                        have hwin : (c.toList.drop (p.off + o)).take (len * (sz1 + 1)) = old' := by
                         apply List.ext_getElem?
                         intro j
                         by_cases hj : j < len * (sz1 + 1)
                         · have hj' : j < old'.length := by omega
                           have := ho4 j _ (List.getElem?_eq_getElem hj')
                           simp only [World.cell?, b1, Option.isSome_none, Bool.false_eq_true, if_false] at this
                           rw [List.getElem?_take, if_pos hj, List.getElem?_drop, Array.getElem?_toList, this, List.getElem?_eq_getElem hj']
                         · rw [List.getElem?_eq_none (by simp; omega), List.getElem?_eq_none (by omega)]
                        rw [zn7 _ _ _ (by simp only [List.length_take, List.length_drop, Array.length_toList]; omega), List.take_take, Nat.min_eq_left (by omega), hwin]
                       rw [this]; exact (ho1.append hn1).grow _
                     · have hvl := (ho1.append hn1).length
                       rw [g3, hvl, List.length_append, ho2, hn2]
                       have e1 : (c' - (len + n)) * (sz1 + 1) + (len * (sz1 + 1) + n * (sz1 + 1)) = c' * (sz1 + 1) := by
                        rw [← Nat.add_mul, ← Nat.add_mul]; congr 1; omega
                       have e2 : c' * (sz1 + 1) = len * (sz1 + 1) + p.spare * (sz1 + 1) := by rw [hc, Nat.add_mul]
                       simp only
                       omega)
                   have e1 : ((zc4 h par).set i (ABlk.cells vs (sz1 + 1) Md.ro none)).length = h.length := by simp [zbw]
                   refine ⟨_, _, _, zgH h0 hu hsz (w' := w.setCells p.blk (p.off + o + len * (sz1 + 1)) new') hn3 hin (by simp only [zea, zde]; exact hst), M.2.trans A.2, A.1, .sl _ _ _ _ _ ⟨p.blk, p.off + o, c' - (len + n)⟩ _ _ ?_ hin (by simp [zai]; omega) (.inl (by simp))⟩
                   rw [← e1]; exact M.1.newAt _
                 · have M := R.retire hb hp
                   obtain ⟨σ', w', v', f1, f2, f3, f4⟩ := fresh (some i) M.1 (by simp [zbw]) ho1 ho3 ho2 (c' := c') (by omega)
                   exact ⟨σ', w', v', f1, M.2.trans f2, f3, f4⟩
               · simp at ha
             · simp at ha
           · rename_i hcap
             split at ha
             · rename_i hfit
               cases hs with
               | sln _ _ p hp hc => exact absurd rfl hcap
               | sl _ _ _ _ _ p ad c' hp hl hc hadr =>
               simp [zai] at hc
               split at ha
               · rename_i hn0
                 subst hn0
                 exact inplace (r := cap) rfl hp hadr (by omega) (by simp [zai]; omega) (by simpa using ha)
               · rename_i hn0
                 exact inplace (r := cap - n) rfl hp hadr (by omega) (by simp [zai]; omega) (by rw [if_neg hn0]; exact ha)
             · simp at ha
     · simp at ha
   · simp at ha
 · simp at ha

end Go.Abs

end

section
/- Operation by operation: copy, len, cap, clear, conversions, numbers, equality. -/
set_option autoImplicit false
set_option linter.unusedVariables false
set_option linter.unusedSimpArgs false
namespace Go.Abs
variable {P : Program} {W0 : World} {σ : Sig} {h : zaa} {w : World}

theorem zet (R : Rel W0 σ h w) {ats : Array TypeId} {t ty e : TypeId} {base : Option (Nat × Nat)} {dl cap sl sz : Nat} {ex : Bool} {cs : List AV} {cs' : List Value} {v : AV} {d' s' : Value} {h' : zaa} (hd : VR σ (.sl base dl cap ex) d')
 (h0 : ats[0]? = some t) (hu : P.underlying t = some (.slice e)) (hsz : zbE P e = some sz) (hcs : VRs σ cs cs') (hl : ∀ w, (Builtin.lenOf s').run P w = .ok sl w)
 (hf : (Builtin.firstCells sz (Nat.min sl dl) s').run P w = .ok cs'.toArray w) (hm : zfx h base dl sl cs = some (v, h')) : SimV W0 σ h w ((Builtin.copy_ ats ty #[d', s']).run P w) v h' := by
 unfold zfx at hm
 split at hm
 · rename_i hcl
   simp at hm
   obtain ⟨rfl, rfl⟩ := hm
   have : cs' = [] := by
    have := hcs.length
    rw [hcl] at this
    exact List.eq_nil_of_length_eq_zero this.symm
   subst this
   refine SimV.still R ?_ (.int _ _)
   cases hd with
   | sl0 => simp only [Builtin.copy_, h0, Sem.run_bind, run_underlying hu, Result.andThen_ok, List.getElem?_toArray, List.getElem?_cons_zero, List.getElem?_cons_succ, hl, zaL hsz, hf, Sem.run_pure, goInt]
   | sln => simp only [Builtin.copy_, h0, Sem.run_bind, run_underlying hu, Result.andThen_ok, List.getElem?_toArray, List.getElem?_cons_zero, List.getElem?_cons_succ, hl, zaL hsz, hf, Sem.run_pure, goInt]
   | sl => simp only [Builtin.copy_, h0, Sem.run_bind, run_underlying hu, Result.andThen_ok, List.getElem?_toArray, List.getElem?_cons_zero, List.getElem?_cons_succ, hl, zaL hsz, hf, storeCells, Sem.run_pure, goInt]
 rename_i hcl
 split at hm
 · rename_i i o
   split at hm
   · rename_i hpos
     simp only [Option.map_eq_some_iff] at hm
     obtain ⟨h1, hput, hm⟩ := hm
     simp at hm
     obtain ⟨rfl, rfl⟩ := hm
     cases hd with
     | sln => omega
     | sl _ _ _ _ _ p ad c' hp hlc hc hadr =>
     obtain rfl := hadr.resolve_right (by omega)
     obtain ⟨w', e1, e2, e3⟩ := R.putAt (P := P) hput (by rintro rfl; exact hcl rfl) hp hcs
     exact ⟨σ, w', _, by simp only [Builtin.copy_, h0, Sem.run_bind, run_underlying hu, Result.andThen_ok, List.getElem?_toArray, List.getElem?_cons_zero, List.getElem?_cons_succ, hl, zaL hsz, hf, e1, Sem.run_pure, goInt], e3, e2, .int _ _⟩
   · simp at hm
 · simp at hm

theorem zvL (R : Rel W0 σ h w) {ats : Array TypeId} {ty : TypeId} {d s v : AV} {d' s' : Value} {h' : zaa} (hd : VR σ d d') (hs : VR σ s s') (ha : zqy P h ats.toList d s = some (v, h')) :
 SimV W0 σ h w ((Builtin.copy_ ats ty #[d', s']).run P w) v h' := by
 unfold zqy at ha
 split at ha
 · rename_i e base dl cap ex he0
   simp only [Option.bind_eq_some_iff] at he0
   obtain ⟨t, ht, he⟩ := he0
   have h0 : ats[0]? = some t := by rw [← Array.getElem?_toList]; exact ht
   have hu := zcD he
   split at ha
   · rename_i sz hsz
     split at ha
     · split at ha
       · cases hs
         exact zet R hd h0 hu hsz .nil (fun w => by simp [Builtin.lenOf]) (by simp [Builtin.firstCells]) ha
       · simp at ha
     · rename_i i o n c0 e0
       cases hs with
       | sln _ _ p hp hc =>
        rw [if_pos rfl] at ha
        exact zet R hd h0 hu hsz .nil (fun w => by simp [Builtin.lenOf]) (by simp [Builtin.firstCells]) ha
       | sl _ _ _ _ _ p ad c' hp hlc hc hadr =>
       split at ha
       · rename_i hn; subst hn
         exact zet R hd h0 hu hsz .nil (fun w => by simp [Builtin.lenOf]) (by simp [Builtin.firstCells, loadCells, loadCellsFrom]) ha
       · rename_i hn
         simp only [Option.bind_eq_some_iff] at ha
         obtain ⟨cs, hcs, ha⟩ := ha
         obtain rfl := hadr.resolve_right (by omega)
         obtain ⟨vs, h1, h2, h3⟩ := R.loadCells (P := P) hcs hp
         exact zet R hd h0 hu hsz h2 (fun w => by simp [Builtin.lenOf]) (by simp [Builtin.firstCells, h1]) ha
     · rename_i s
       split at ha
       · rename_i h1
         cases hs with
         | str s' =>
         refine zet R hd h0 hu hsz (cs' := (s'.data.toList.take (Nat.min s'.data.toList.length dl)).map fun b => .int .u8 b.toNat) (VRs.map_of _ _ _ fun b _ => .int _ _) (fun w => by simp [Builtin.lenOf]) ?_ ha
         have hx := zfA s' 0 (Nat.min s'.data.toList.length dl) (Nat.zero_le _) (by simp; exact Nat.min_le_left _ _)
         rw [List.drop_zero] at hx
         simp only [Builtin.firstCells, Sem.run_pure]
         congr 1
         apply Array.ext'
         rw [← hx]; simp
       · simp at ha
     · simp at ha
   · simp at ha
 · simp at ha

theorem zxu (R : Rel W0 σ h w) {t ty : TypeId} {x v : AV} {x' : Value} (hx : VR σ x x') (hl : zuj P h t x = some v) : ∃ v', (Builtin.len_ #[t] ty #[x']).run P w = .ok v' w ∧ VR σ v v' := by
 unfold zuj at hl
 split at hl
 · rename_i s hu; simp at hl; subst hl; cases hx
   rename_i s'
   exact ⟨.int .i64 s'.size, by simp [Builtin.len_, run_underlying hu, goInt], by simpa using VR.int (σ := σ) .i64 s'.size⟩
 · rename_i n e hu; simp at hl; subst hl
   exact ⟨_, by simp [Builtin.len_, run_underlying hu, goInt], .int _ _⟩
 · rename_i e a n c ex hu; simp at hl; subst hl
   cases hx <;> exact ⟨_, by simp [Builtin.len_, run_underlying hu, goInt], .int _ _⟩
 · rename_i k e hu; simp at hl; subst hl; cases hx
   exact ⟨_, by simp [Builtin.len_, run_underlying hu, goInt], .int _ _⟩
 · rename_i k e r hu
   split at hl
   · rename_i es clk sy hr
     simp at hl; subst hl
     cases hx with
     | map _ p hp =>
     obtain ⟨es', h1, h2⟩ := R.obj hr hp
     have hlen : es.length = es'.size := by
      have : ∀ {l : List (AV × AV × Nat)} {m : List MapEntry}, ERs σ l m → l.length = m.length := by
       intro l m hh
       induction hh with
       | nil => rfl
       | cons k v b e l m hk hv hb t ih => simp [ih]
      simpa using this h2
     have hg : (getObj p.blk).run P w = .ok (.map es' clk) w := by simp [getObj, Sem.run, h1]
     exact ⟨.int .i64 es'.size, by simp [Builtin.len_, run_underlying hu, hg, goInt], by rw [hlen]; exact .int _ _⟩
   · simp at hl
 · simp at hl

theorem zys {t ty : TypeId} {x v : AV} {x' : Value} (hx : VR σ x x') (hl : zyO P t x = some v) (w : World) : ∃ v', (Builtin.cap_ #[t] ty #[x']).run P w = .ok v' w ∧ VR σ v v' := by
 unfold zyO at hl
 split at hl
 · rename_i n e hu; simp at hl; subst hl
   exact ⟨_, by simp [Builtin.cap_, run_underlying hu, goInt], .int _ _⟩
 · rename_i e a c ex hu; simp at hl; subst hl
   cases hx
   exact ⟨_, by simp [Builtin.cap_, run_underlying hu, goInt], .int _ _⟩
 · rename_i e a n c hu; simp at hl; subst hl
   cases hx with
   | sl i o _ _ _ p ad c' hp hlc hc ha =>
   simp [zai] at hc; subst hc
   exact ⟨_, by simp [Builtin.cap_, run_underlying hu, goInt], .int _ _⟩
 · simp at hl

theorem zt8 (R : Rel W0 σ h w) {t ty : TypeId} {x : AV} {x' : Value} {h' : zaa} (hx : VR σ x x') (ha : zkw P h t x = some h') :
 SimV W0 σ h w ((Builtin.clear_ #[t] ty #[x']).run P w) (.tup []) h' := by
 unfold zkw at ha
 split at ha
 · rename_i e n c ex hu
   simp at ha; subst ha
   cases hx
   refine SimV.still R (v' := .tuple #[]) ?_ (.tup _ _ .nil)
   simp [Builtin.clear_, run_underlying hu]
 · rename_i e i o n c ex hu
   split at ha
   · rename_i hn
     subst hn
     simp at ha; subst ha
     cases hx
     all_goals
      refine SimV.still R (v' := .tuple #[]) ?_ (.tup _ _ .nil)
      simp [Builtin.clear_, run_underlying hu]
   · rename_i hn
     split at ha
     · rename_i sz z hsz hz
       split at ha
       · rename_i zc hzc
         split at ha
         · rename_i hc
           cases hx with
           | sln => exact absurd rfl hn
           | sl _ _ _ _ _ p ad c' hp hlc hcc hadr =>
           obtain rfl := hadr.resolve_right (by omega)
           obtain ⟨zv, hz1, hz2⟩ := zcI hz σ w
           have hzv := zcN hz2 hzc
           have hzs : zv.cells.size = sz := by rw [← Array.length_toList, ← hzv.length, hc.1]
           obtain ⟨w', e1, e2, e3⟩ := R.putAt (P := P) ha (by
            intro h0
            have h1 := congrArg List.length h0
            have : (zex n zc).length = n * sz := by simp [zex, hc.1]
            rw [this] at h1
            have : 0 < n * sz := Nat.mul_pos (by omega) (by omega)
            simp at h1; omega) hp (zhG hzv n)
           have hrep := zff zv.cells (by omega) n
           have harr : (Builtin.zeroCells zv.cells n).toList = (List.replicate n zv.cells.toList).flatten := by rw [← hrep]; rfl
           refine ⟨σ, w', .tuple #[], ?_, e3, e2, .tup _ _ .nil⟩
           cases n with
           | zero => exact absurd rfl hn
           | succ n => simp only [Builtin.clear_, List.getElem?_toArray, List.getElem?_cons_zero, Sem.run_bind, run_underlying hu, Result.andThen_ok, hz1, harr, e1, Sem.run_pure]
         · simp at ha
       · simp at ha
     · simp at ha
 · simp at ha


theorem zjL {σ : Sig} : ∀ {cs : List AV} {vs : List Value}, VRs σ cs vs → cs.all ziR = true → ∃ ns : List Int, vs = ns.map (fun n => Value.int .u8 n) ∧ cs.map zaA = ns.map fun n => UInt8.ofNat n.toNat
 | _, _, .nil, _ => ⟨[], rfl, rfl⟩
 | _, _, .cons a v l m hv t, hm => by
  simp only [List.all_cons, Bool.and_eq_true] at hm
  obtain ⟨ns, rfl, h2⟩ := zjL t hm.2
  have h1 := hm.1
  unfold ziR at h1
  split at h1
  · rename_i n
    cases hv
    exact ⟨n :: ns, rfl, by simp [zaA, h2]⟩
  · simp at h1

theorem zeY {ns : List Int} {a : Addr} {n : Nat} (hl : (loadCells a n).run P w = .ok (ns.map (fun n => Value.int .u8 n)).toArray w) {c : Nat} :
 (Conv.bytesToString (.slice (some a) n c)).run P w = .ok (.string ⟨(ns.map fun n => UInt8.ofNat n.toNat).toArray⟩) w := by
 have key : ∀ (ns : List Int) (s : ByteArray) (w : World), (forIn (ns.map (fun n => Value.int .u8 n)) s fun c (r : ByteArray) => (do
       let .int .u8 n := c | stuck "bytesToString: byte expected"
       pure (ForInStep.yield (r.push (UInt8.ofNat n.toNat))) : Sem (ForInStep ByteArray))).run P w = .ok ⟨s.data ++ (ns.map fun n => UInt8.ofNat n.toNat).toArray⟩ w := by
  intro ns
  induction ns with
  | nil => intro s w; cases s; simp
  | cons n ns ih =>
   intro s w
   simp only [List.map_cons, List.forIn_cons, Sem.run_bind, Sem.run_pure, Result.andThen_ok, ih]
   congr 1
   simp [ByteArray.push]
 simp only [Conv.bytesToString, Sem.run_bind, hl, Result.andThen_ok]
 have := key ns .empty w
 rw [← List.forIn_toArray] at this
 simp only [this, Result.andThen_ok, Sem.run_pure]
 have fold : ∀ (ns : List Int) (s : ByteArray), List.foldl (fun (b : ByteArray) (a : Int) => b.push (UInt8.ofNat a.toNat)) s ns = ⟨s.data ++ (ns.map fun n => UInt8.ofNat n.toNat).toArray⟩ := by
  intro ns
  induction ns with
  | nil => intro s; cases s; simp
  | cons n ns ih => intro s; rw [List.foldl_cons, ih]; simp [ByteArray.push]
 congr 2
 simp [ByteArray.empty, ByteArray.emptyWithCapacity, fold]
 rfl

theorem zpH (w : World) (c : Array Value) (t : TypeId) : (w.alloc (.cells c t)).freeze { block := w.heap.size, off := c.size } 1 = w.alloc (.cells c t (c.size, c.size + 1)) := by
 have : ((w.heap.push (Obj.cells c t)).modify w.heap.size fun
  | .cells c elem (lo, hi) => .cells c elem (if lo == hi then (c.size, c.size + 1) else (min lo c.size, max hi (c.size + 1)))
  | o => o) = w.heap.push (.cells c t (c.size, c.size + 1)) := by
  apply Array.ext_getElem?
  intro i
  rw [Array.getElem?_modify]
  by_cases hi : w.heap.size = i
  · subst hi; simp
  · simp [hi, Array.getElem?_push, Ne.symm hi]
 simp only [World.freeze, World.alloc]
 rw [if_neg (by decide)]
 congr 1
 apply Array.ext_getElem?
 intro i
 rw [Array.getElem?_modify]
 by_cases hi : w.heap.size = i
 · subst hi; simp
 · simp [hi, Array.getElem?_push, Ne.symm hi]

theorem zhZ (w : World) (a : Addr) (n : Nat) {k : Nat} (hk : k ≠ a.block) : (w.freeze a n).heap[k]? = w.heap[k]? := by
 unfold World.freeze
 split
 · rfl
 · simp only [Array.getElem?_modify]
   rw [if_neg (Ne.symm hk)]
theorem zje (w : World) (a : Addr) (n : Nat) : (w.freeze a n).heap.size = w.heap.size := by
 unfold World.freeze
 split
 · rfl
 · simp
theorem zmM {w : World} (a : Addr) (n : Nat) {c : Array Value} {t : TypeId} {fr : Nat × Nat} (h : w.heap[a.block]? = some (.cells c t fr)) : ∃ fr', (w.freeze a n).heap[a.block]? = some (.cells c t fr') := by
 unfold World.freeze
 split
 · exact ⟨fr, h⟩
 · simp only [Array.getElem?_modify, h]
   simp only [if_true, Option.map_some]
   exact ⟨_, rfl⟩
theorem Below.freeze {B : Nat} {w0 w : World} (h : RowKit.Below B w0 w) {a : Addr} (ha : B ≤ a.block) (n : Nat) : RowKit.Below B w0 (w.freeze a n) := by
 refine h.trans ⟨?_, ?_, ?_, by rw [zje]; exact Nat.le_refl _, fun k hk => zhZ w a n (by omega)⟩
 all_goals (unfold World.freeze; split <;> rfl)

theorem zhH (s : ByteArray) (e : TypeId) (w : World) : ∃ cap, s.size ≤ cap ∧ (Conv.stringToBytes e s).run P w =
 .ok (.slice (some ⟨w.heap.size, 0, none⟩) s.size cap)
  (w.drew.alloc (.cells ((s.data.map fun (b : UInt8) => Value.int .u8 b.toNat) ++ Array.replicate (cap - s.size) (Value.int .u8 0)) e (s.size + (cap - s.size), s.size + (cap - s.size) + 1))) := by
 have hq : (Question.appendCap s.size 0 e).forced = false := rfl
 refine ⟨s.size + w.tape w.drawn (.appendCap s.size 0 e) % (2 ^ 63 - s.size), by omega, ?_⟩
 have hcut : (Question.appendCap s.size 0 e).cut (w.tape w.drawn (.appendCap s.size 0 e)) = s.size + w.tape w.drawn (.appendCap s.size 0 e) % (2 ^ 63 - s.size) := rfl
 generalize hcap : s.size + w.tape w.drawn (.appendCap s.size 0 e) % (2 ^ 63 - s.size) = cap at hcut
 have hch : (choose (.appendCap s.size 0 e)).run P w = .ok cap w.drew := by
  rw [run_choose, hq, hcut]; rfl
 have hsz : ((s.data.map fun (b : UInt8) => Value.int .u8 b.toNat) ++ Array.replicate (cap - s.size) (Value.int .u8 0)).size = s.size + (cap - s.size) := by simp
 have hshape : (w.drew.alloc (.cells ((s.data.map fun (b : UInt8) => Value.int .u8 b.toNat) ++ Array.replicate (cap - s.size) (.int .u8 0)) e)).shape? w.heap.size = some (e, s.size + (cap - s.size)) := by
  have := World.alloc_heap_new w.drew (.cells ((s.data.map fun (b : UInt8) => Value.int .u8 b.toNat) ++ Array.replicate (cap - s.size) (Value.int .u8 0)) e)
  rw [World.size_drew] at this
  simp only [World.shape?, this, hsz]
 have hfr := zpH w.drew ((s.data.map fun (b : UInt8) => Value.int .u8 b.toNat) ++ Array.replicate (cap - s.size) (.int .u8 0)) e
 rw [hsz] at hfr
 simp only [Conv.stringToBytes, Sem.run_bind, hch, Result.andThen_ok, newRow, run_newObj_alloc, Sem.run_pure, markStringish, run_shape, World.size_drew, hshape, run_freeze]
 rw [← hfr]
 rfl

theorem zvo (R : Rel W0 σ h w) {s d : TypeId} {x v : AV} {x' : Value} {h' : zaa} (hx : VR σ x x') (ha : zld P h s d x = some (v, h')) :
 SimV W0 σ h w ((convert s d x').run P w) v h' := by
 unfold zld at ha
 split at ha
 · rename_i k0 k1 k2 n hs hd
   simp at ha; obtain ⟨rfl, rfl⟩ := ha
   cases hx
   exact SimV.still R (by simp [convert, run_underlying hs, run_underlying hd, Conv.intToInt]) (.int _ _)
 · rename_i t hs hd
   simp at ha; obtain ⟨rfl, rfl⟩ := ha
   cases hx
   exact SimV.still R (by simp [convert, run_underlying hs, run_underlying hd]) (.str _)
 · rename_i e t hs hd
   split at ha
   · rename_i he
     split at ha
     case isFalse => simp at ha
     rename_i hne
     simp at ha; obtain ⟨rfl, rfl⟩ := ha
     cases hx with
     | str s' =>
     obtain ⟨cap, hcap, hrun⟩ := zhH (P := P) s' e w
     have hpush := R.drew.push (.cells ((s'.data.map fun (b : UInt8) => Value.int .u8 b.toNat) ++ Array.replicate (cap - s'.size) (Value.int .u8 0)) e (s'.size + (cap - s'.size), s'.size + (cap - s'.size) + 1))
      (.cells (s'.data.toList.map fun b => AV.int .u8 b.toNat) 1 .own none) (cap - s'.size) rfl
      (.inr ⟨by intro h0; simp at h0; simp [h0] at hne, _, _, _, World.alloc_heap_new _ _, by
       have : ((((s'.data.map fun (b : UInt8) => Value.int .u8 b.toNat) ++ Array.replicate (cap - s'.size) (Value.int .u8 0)).toList.drop 0).take (s'.data.toList.map fun b => AV.int .u8 b.toNat).length) = s'.data.toList.map fun b => Value.int .u8 b.toNat := by
        rw [List.drop_zero]; simp
       rw [this]; exact VRs.map_of _ _ _ fun b _ => .int _ _, fun _ => ⟨fun j _ hj => by simp at hj ⊢; omega, by simp⟩⟩)
     refine ⟨_, _, _, ?_, (Stp.drew σ h w).trans hpush.2, hpush.1, .sl _ _ _ _ _ ⟨w.heap.size, 0, cap - s'.size⟩ _ cap (R.newAt _) (by simpa using hcap) (by simp [zai]; omega) (.inl (by simp; rfl))⟩
     · simp only [convert, Sem.run_bind, run_underlying hs, run_underlying hd, Result.andThen_ok, run_underlying he, hrun]
       simp
   · simp at ha
 · rename_i e0 e i o n c ex hs hd
   split at ha
   case h_2 => simp at ha
   rename_i vs esz he hb
   split at ha
   case isFalse => simp at ha
   rename_i hc
   obtain ⟨rfl, hn, hv⟩ := hc
   rw [hs] at hd
   cases hd
   simp only [Option.some.injEq, Prod.mk.injEq] at ha
   obtain ⟨rfl, rfl⟩ := ha
   cases hx with
   | sln _ _ p hp hcc => omega
   | sl _ _ _ _ _ p ad c' hp hlc hcc hadr =>
   have had : ad = ⟨p.blk, p.off + o, none⟩ := by
    rcases hadr with h1 | h1
    · exact h1
    · omega
   subst had
   have hne : vs ≠ [] := by rintro rfl; simp at hv
   have hob := R.obj hb hp
   rcases hob with ⟨h0, _⟩ | ⟨_, cc, t, fr, h1, h2, _⟩
   · exact absurd h0 hne
   have M := R.modify (w' := w.freeze ⟨p.blk, cc.size, none⟩ 1) (b' := .cells vs esz .ro none) hb hp (by simp [ABlk.mine, hne]) rfl rfl (fun k hk => zhZ w _ _ hk) (zje w _ _) (Below.freeze R.below (R.own hb hp (by simp [ABlk.mine, hne])) _)
    (by
     obtain ⟨fr', h3⟩ := zmM (w := w) ⟨p.blk, cc.size, none⟩ 1 h1
     exact .inr ⟨hne, cc, t, fr', h3, h2, fun e => by cases e⟩)
   refine ⟨σ, _, _, ?_, M.2, M.1, .sl _ _ _ _ _ _ _ _ hp hlc hcc (.inl rfl)⟩
   simp [convert, run_underlying hs, run_underlying he, markStringish, World.shape?, h1]
 · rename_i e base n c ex hs hd
   split at ha
   · rename_i he
     split at ha
     · simp at ha; obtain ⟨rfl, rfl⟩ := ha
       cases hx
       exact SimV.still R (by simp [convert, run_underlying hs, run_underlying hd, run_underlying he, Conv.bytesToString]) (.str .empty)
     · simp at ha
   · rename_i i o he
     simp only [Option.bind_eq_some_iff] at ha
     obtain ⟨cs, hcs, ha⟩ := ha
     split at ha
     case isFalse => simp at ha
     rename_i hm
     simp only [Option.some.injEq, Prod.mk.injEq] at ha
     obtain ⟨rfl, rfl⟩ := ha
     cases hx with
     | sln _ _ p hp hcc =>
      obtain ⟨vs, h1, h2, _⟩ := R.cellsAt hcs hp
      have : vs = [] := List.eq_nil_of_length_eq_zero h1
      subst this
      have hcs0 : cs = [] := List.eq_nil_of_length_eq_zero (by rw [h2.length]; rfl)
      subst hcs0
      exact SimV.still R (by simp [convert, run_underlying hs, run_underlying hd, run_underlying he, Conv.bytesToString]) (.str .empty)
     | sl _ _ _ _ _ p ad c' hp hlc hcc hadr =>
     have hload : ∃ ns : List Int, (loadCells ad n).run P w = .ok (ns.map (fun n => Value.int .u8 n)).toArray w ∧ cs.map zaA = ns.map fun n => UInt8.ofNat n.toNat := by
      by_cases hn : n = 0
      · subst hn
        obtain ⟨vs, h1, h2, _⟩ := R.cellsAt hcs hp
        have : vs = [] := List.eq_nil_of_length_eq_zero h1
        subst this
        obtain ⟨ns, e1, e2⟩ := zjL h2 hm
        have : ns = [] := by simpa using e1.symm
        subst this
        exact ⟨[], by simp [loadCells, loadCellsFrom], e2⟩
      · obtain rfl := hadr.resolve_right (by omega)
        obtain ⟨vs, h1, h2, _⟩ := R.loadCells (P := P) hcs hp
        obtain ⟨ns, rfl, e2⟩ := zjL h2 hm
        exact ⟨ns, h1, e2⟩
     obtain ⟨ns, h1, h2⟩ := hload
     rw [h2]
     refine SimV.still R (v' := .string ⟨(ns.map fun n => UInt8.ofNat n.toNat).toArray⟩) ?_ (by simpa using VR.str (σ := σ) ⟨(ns.map fun n => UInt8.ofNat n.toNat).toArray⟩)
     simp only [convert, Sem.run_bind, run_underlying hs, run_underlying hd, Result.andThen_ok, run_underlying he]
     exact zeY h1
   · simp at ha
 · simp at ha

end Go.Abs

end

section
/- Operation by operation: equality, numbers, texts. -/
set_option autoImplicit false
set_option linter.unusedVariables false
set_option linter.unusedSimpArgs false
namespace Go.Abs
variable {P : Program} {W0 : World} {σ : Sig} {h : zaa} {w : World}

def zxA (P : Program) (σ : Sig) (d : Nat) : Prop :=
 ∀ (t : TypeId) (x y : AV) (x' y' : Value) (r : Bool) (w : World), VR σ x x' → VR σ y y' → zdz P d t x y = some r → (Op.equalIn d t x' y').run P w = .ok r w

theorem zfP {d : Nat} (ih : zxA P σ d) {xs ys : List AV} {xs' ys' : List Value} (hx : VRs σ xs xs') (hy : VRs σ ys ys') (w : World) : ∀ (fs : List Field) (r : Bool),
 zdv P (zdz P d) xs ys fs = some r → (Op.eqFields d xs'.toArray ys'.toArray fs).run P w = .ok r w
 | [], r, ha => by simp [zdv] at ha; subst ha; rfl
 | f :: fs, r, ha => by
  unfold zdv at ha
  split at ha
  · rename_i hn
    unfold Op.eqFields
    rw [if_neg (by simpa using hn)]
    exact zfP ih hx hy w fs r ha
  · rename_i hn
    simp only [Option.bind_eq_some_iff] at ha
    obtain ⟨a, ha1, b, hb1, r1, hr1, ha⟩ := ha
    obtain ⟨a', e1, e2⟩ := zeg hx ha1 w
    obtain ⟨b', e3, e4⟩ := zeg hy hb1 w
    have e5 := ih f.type a b a' b' r1 w e2 e4 hr1
    unfold Op.eqFields
    rw [if_pos (by simpa using hn)]
    simp only [Sem.run_bind, e1, e3, e5, Result.andThen_ok]
    simp only [Option.map_eq_some_iff] at ha
    obtain ⟨s, hs, rfl⟩ := ha
    cases r1 with
    | false => simp
    | true => simpa using zfP ih hx hy w fs s hs

theorem zi7 {d sz : Nat} {e : TypeId} (ih : zxA P σ d) {xs ys : List AV} {xs' ys' : List Value} (hx : VRs σ xs xs') (hy : VRs σ ys ys') (w : World) : ∀ (n i : Nat) (r : Bool),
 zfk P (zdz P d) e sz xs ys n i = some r → (Op.eqItems d e sz xs'.toArray ys'.toArray (List.range' i n)).run P w = .ok r w
 | 0, i, r, ha => by simp [zfk] at ha; subst ha; rfl
 | n + 1, i, r, ha => by
  unfold zfk at ha
  simp only [Option.bind_eq_some_iff] at ha
  obtain ⟨a, ha1, b, hb1, r1, hr1, ha⟩ := ha
  obtain ⟨a', e1, e2⟩ := zeg hx ha1 w
  obtain ⟨b', e3, e4⟩ := zeg hy hb1 w
  have e5 := ih e a b a' b' r1 w e2 e4 hr1
  rw [List.range'_succ]
  unfold Op.eqItems
  simp only [Sem.run_bind, e1, e3, e5, Result.andThen_ok]
  simp only [Option.map_eq_some_iff] at ha
  obtain ⟨s, hs, rfl⟩ := ha
  cases r1 with
  | false => simp
  | true => simpa using zi7 ih hx hy w n (i + 1) s hs

theorem zg6 : ∀ d, zxA P σ d
 | 0 => fun _ _ _ _ _ _ _ _ _ ha => by simp [zdz] at ha
 | d + 1 => by
  intro t x y x' y' r w hx hy ha
  have ih := zg6 d
  unfold zdz at ha
  split at ha
  · rename_i hu; simp at ha; subst ha; cases hx; cases hy; simp [Op.equalIn, run_underlying hu]
  · rename_i hu
    split at ha
    · rename_i hk; simp at ha; subst ha; cases hx; cases hy; simp [Op.equalIn, run_underlying hu, hk]
    · simp at ha
  · rename_i hu; simp at ha; subst ha; cases hx; cases hy
    rename_i s1 s2
    simp only [Op.equalIn, Sem.run_bind, run_underlying hu, Result.andThen_ok, Sem.run_pure]
    congr 1
    rw [beq_toListBytes, ByteArray.toList_eq, ByteArray.toList_eq, Bool.eq_iff_iff]
    simp
  · rename_i hu; simp at ha; subst ha; cases hx; cases hy <;> simp [Op.equalIn, run_underlying hu]
  · rename_i hu; simp at ha; subst ha; cases hx; cases hy; simp [Op.equalIn, run_underlying hu]
  · rename_i hu; simp at ha; subst ha; cases hx; cases hy; simp [Op.equalIn, run_underlying hu]
  · rename_i hu
    split at ha
    · simp at ha; subst ha; cases hx; cases hy
      simp [Op.equalIn, run_underlying hu]
    · split at ha
      · rename_i hl; simp at ha; subst ha; cases hx; cases hy
        · simp [Op.equalIn, run_underlying hu]
        · omega
      · simp at ha
  · rename_i hu
    split at ha
    · simp at ha; subst ha; cases hy; cases hx
      simp [Op.equalIn, run_underlying hu]
    · split at ha
      · rename_i hl; simp at ha; subst ha; cases hy; cases hx
        · simp [Op.equalIn, run_underlying hu]
        · omega
      · simp at ha
  · rename_i hu; simp at ha; subst ha; cases hx; cases hy <;> simp [Op.equalIn, run_underlying hu]
  · rename_i hu; simp at ha; subst ha; cases hx; cases hy; simp [Op.equalIn, run_underlying hu]
  · rename_i hu; simp at ha; subst ha; cases hx; cases hy; simp [Op.equalIn, run_underlying hu]
  · rename_i hu; simp at ha; subst ha; cases hx; cases hy <;> simp [Op.equalIn, run_underlying hu]
  · rename_i hu; simp at ha; subst ha; cases hy; cases hx <;> simp [Op.equalIn, run_underlying hu]
  · rename_i fs xs ys hu
    split at ha
    · simp at ha
    · rename_i hst
      cases hx with
      | agg _ m1 h1 =>
      cases hy with
      | agg _ m2 h2 =>
      have hfs : P.fieldsOf t = fs := by simp [Program.fieldsOf, hu]
      rw [run_equalIn_struct w d t _ _ (by rw [hfs]; exact hu) (by simpa using hst), hfs]
      exact zfP ih h1 h2 w _ _ ha
  · rename_i n e xs ys hu
    split at ha
    · rename_i sz hsz
      cases hx with
      | agg _ m1 h1 =>
      cases hy with
      | agg _ m2 h2 =>
      unfold zbE at hsz
      simp only [Option.map_eq_some_iff] at hsz
      obtain ⟨i, hi, rfl⟩ := hsz
      have hc : P.cellsOf e = i.size := by simp [Program.cellsOf, hi]
      rw [run_equalIn_array w d _ _ hu hi, hc, List.range_eq_range']
      exact zi7 ih h1 h2 w _ _ _ ha
    · simp at ha
  · simp at ha


theorem zzW {op : UnOp} {x v : AV} {x' : Value} (hx : VR σ x x') (ha : aun op x = some v) (w : World) : ∃ v', (Op.unary op x').run P w = .ok v' w ∧ VR σ v v' := by
 unfold aun at ha
 split at ha
 · simp at ha; subst ha; cases hx; exact ⟨_, by simp [Op.unary, Op.intArith], .int _ _⟩
 · simp at ha; subst ha; cases hx; exact ⟨_, by simp [Op.unary, Op.intBits, zaU], .int _ _⟩
 · simp at ha; subst ha; cases hx; exact ⟨_, by simp [Op.unary], .bool _⟩
 · simp at ha

theorem zuX {op : BinOp} {k : IntKind} {a b : Int} {v : AV} {t : TypeId} (ha : znJ op k a b = some v) (w : World) : ∃ v', (binOp op t (.int k a) (.int k b)).run P w = .ok v' w ∧ VR σ v v' := by
 cases op <;> simp [znJ] at ha
 case quo => obtain ⟨h0, rfl⟩ := ha; exact ⟨_, by simp [binOp, Op.intDiv, h0], .int _ _⟩
 case rem => obtain ⟨h0, rfl⟩ := ha; exact ⟨_, by simp [binOp, Op.intDiv, h0], .int _ _⟩
 all_goals (subst ha)
 case add => exact ⟨_, by simp [binOp, Op.intArith], .int _ _⟩
 case sub => exact ⟨_, by simp [binOp, Op.intArith], .int _ _⟩
 case mul => exact ⟨_, by simp [binOp, Op.intArith], .int _ _⟩
 case and => exact ⟨_, by simp [binOp, Op.intBits, zaU], .int _ _⟩
 case or => exact ⟨_, by simp [binOp, Op.intBits, zaU], .int _ _⟩
 case xor => exact ⟨_, by simp [binOp, Op.intBits, zaU], .int _ _⟩
 case andNot => exact ⟨_, by simp [binOp, Op.intBits, zaU], .int _ _⟩
 all_goals exact ⟨_, by simp [binOp, Op.intCmp], .bool _⟩

theorem zn1 {op : BinOp} {t : TypeId} {x y : Operand} {k : IntKind} {a : Int} {v : Value} (w : World) : (eqGuard op t x y (.int k a) v).run P w = .ok () w := by
 cases op <;> rfl
theorem zgy {op : BinOp} {t : TypeId} {x y : Operand} {s : ByteArray} {v : Value} (w : World) : (eqGuard op t x y (.string s) v).run P w = .ok () w := by
 cases op <;> rfl

theorem zie (s : ByteArray) : s.toList = s.data.toList := by
 rw [ByteArray.toList_eq]

theorem zua {op : BinOp} {t : TypeId} {x y v : AV} {x' y' : Value} {xo yo : Operand} (hx : VR σ x x') (hy : VR σ y y') (hni : ∀ k n, x ≠ .int k n) (hns : ∀ s, x ≠ .str s) (hna : ∀ l, x ≠ .agg l)
 (ha : (match op with
  | .eql => (zdz P 10000 t x y).map AV.bool
  | .neq => (zdz P 10000 t x y).map fun r => AV.bool (!r)
  | _ => none) = some v) (w : World) : ∃ v', (do eqGuard op t xo yo x' y'; binOp op t x' y' : Sem Value).run P w = .ok v' w ∧ VR σ v v' := by
 have key : ∀ r, zdz P 10000 t x y = some r → (Op.equal t x' y').run P w = .ok r w := fun r hr => zg6 10000 t x y x' y' r w hx hy hr
 have shape : ∀ r, zdz P 10000 t x y = some r → (eqGuard op t xo yo x' y').run P w = .ok () w ∧ (op = .eql → binOp op t x' y' = (do pure (.bool (← Op.equal t x' y')))) ∧ (op = .neq → binOp op t x' y' = (do pure (.bool (!(← Op.equal t x' y'))))) := by
  intro r hr
  unfold zdz at hr
  split at hr
  · cases hx; cases hy; cases op <;> exact ⟨rfl, (fun h => by first | rfl | cases h), (fun h => by first | rfl | cases h)⟩
  · exact absurd rfl (hni _ _)
  · exact absurd rfl (hns _)
  · cases hx; cases hy <;> cases op <;> exact ⟨rfl, (fun h => by first | rfl | cases h), (fun h => by first | rfl | cases h)⟩
  · cases hx; cases hy; cases op <;> exact ⟨rfl, (fun h => by first | rfl | cases h), (fun h => by first | rfl | cases h)⟩
  · cases hx; cases hy; cases op <;> exact ⟨rfl, (fun h => by first | rfl | cases h), (fun h => by first | rfl | cases h)⟩
  · cases hx; cases hy
    · cases op <;> exact ⟨rfl, (fun h => by first | rfl | cases h), (fun h => by first | rfl | cases h)⟩
    · simp at hr
  · cases hy; cases hx
    · cases op <;> exact ⟨rfl, (fun h => by first | rfl | cases h), (fun h => by first | rfl | cases h)⟩
    · simp at hr
  · cases hx; cases hy <;> cases op <;> exact ⟨rfl, (fun h => by first | rfl | cases h), (fun h => by first | rfl | cases h)⟩
  · cases hx; cases hy; cases op <;> exact ⟨rfl, (fun h => by first | rfl | cases h), (fun h => by first | rfl | cases h)⟩
  · cases hx; cases hy; cases op <;> exact ⟨rfl, (fun h => by first | rfl | cases h), (fun h => by first | rfl | cases h)⟩
  · cases hx; cases hy <;> cases op <;> exact ⟨rfl, (fun h => by first | rfl | cases h), (fun h => by first | rfl | cases h)⟩
  · cases hy; cases hx <;> cases op <;> exact ⟨rfl, (fun h => by first | rfl | cases h), (fun h => by first | rfl | cases h)⟩
  · exact absurd rfl (hna _)
  · exact absurd rfl (hna _)
  · simp at hr
 cases op
 case eql =>
  simp only [Option.map_eq_some_iff] at ha
  obtain ⟨r, hr, rfl⟩ := ha
  obtain ⟨h1, h2, _⟩ := shape r hr
  exact ⟨_, by simp only [h1, h2 rfl, key r hr, Sem.run_bind, Result.andThen_ok, Sem.run_pure], .bool _⟩
 case neq =>
  simp only [Option.map_eq_some_iff] at ha
  obtain ⟨r, hr, rfl⟩ := ha
  obtain ⟨h1, _, h2⟩ := shape r hr
  exact ⟨_, by simp only [h1, h2 rfl, key r hr, Sem.run_bind, Result.andThen_ok, Sem.run_pure], .bool _⟩
 all_goals (simp at ha)

theorem zxZ {op : BinOp} {t : TypeId} {x y v : AV} {x' y' : Value} {xo yo : Operand} (hx : VR σ x x') (hy : VR σ y y') (ha : zqF P op t x y = some v) (w : World) :
 ∃ v', (do eqGuard op t xo yo x' y'; binOp op t x' y' : Sem Value).run P w = .ok v' w ∧ VR σ v v' := by
 unfold zqF at ha
 split at ha
 · rename_i k a k' b
   cases hx; cases hy
   split at ha
   · split at ha
     · simp at ha
     · rename_i hb
       simp at ha; subst ha
       exact ⟨_, by simp [eqGuard, binOp, Op.shift, hb], .int _ _⟩
   · split at ha
     · simp at ha
     · rename_i hb
       simp at ha; subst ha
       exact ⟨_, by simp [eqGuard, binOp, Op.shift, hb], .int _ _⟩
   · split at ha
     · rename_i hk
       subst hk
       obtain ⟨v', h1, h2⟩ := zuX (P := P) (σ := σ) (t := t) ha w
       exact ⟨v', by simp only [Sem.run_bind, zn1, Result.andThen_ok, h1], h2⟩
     · simp at ha
 · rename_i a b
   cases hx with
   | str s1 =>
   cases hy with
   | str s2 =>
   have heq : (s1.toList == s2.toList) = decide (s1.data.toList = s2.data.toList) := by
    rw [zie, zie, Bool.eq_iff_iff]; simp
   split at ha
   · split at ha
     · rename_i hl
       simp at ha; subst ha
       have hno : ¬ (((s1.size + s2.size : Nat) : Int) > IntKind.i64.max) := by
        have : IntKind.i64.max = 9223372036854775807 := by rfl
        simp at hl; omega
       refine ⟨.string (s1 ++ s2), ?_, ?_⟩
       · simp only [zgy, Sem.run_bind, Result.andThen_ok, binOp, Op.stringOp, Sem.run_ite]
         rw [if_neg hno]; rfl
       · have := VR.str (σ := σ) (s1 ++ s2)
         simpa [ByteArray.data_append] using this
     · simp at ha
   · simp only [Option.some.injEq] at ha; subst ha
     exact ⟨_, by simp only [zgy, Sem.run_bind, Result.andThen_ok, binOp, Op.stringOp, Sem.run_pure]; rw [heq], .bool _⟩
   · simp only [Option.some.injEq] at ha; subst ha
     exact ⟨_, by simp only [zgy, Sem.run_bind, Result.andThen_ok, binOp, Op.stringOp, Sem.run_pure]; rw [heq], .bool _⟩
   · simp at ha
 · rename_i a b
   split at ha
   · simp at ha
   · rename_i hg
     cases hx with
     | agg _ m1 h1 =>
     cases hy with
     | agg _ m2 h2 =>
     have hgd : (eqGuard op t xo yo (.agg m1.toArray) (.agg m2.toArray)).run P w = .ok () w := run_eqGuard_agg w op t xo yo _ _ (by simpa using hg)
     have key : ∀ r, zdz P 10000 t (.agg a) (.agg b) = some r → (Op.equal t (.agg m1.toArray) (.agg m2.toArray)).run P w = .ok r w := fun r hr => zg6 10000 t _ _ _ _ r w (.agg _ _ h1) (.agg _ _ h2) hr
     split at ha
     · simp only [Option.map_eq_some_iff] at ha
       obtain ⟨r, hr, rfl⟩ := ha
       exact ⟨_, by simp only [hgd, Sem.run_bind, Result.andThen_ok, binOp, key r hr, Sem.run_pure], .bool _⟩
     · simp only [Option.map_eq_some_iff] at ha
       obtain ⟨r, hr, rfl⟩ := ha
       exact ⟨_, by simp only [hgd, Sem.run_bind, Result.andThen_ok, binOp, key r hr, Sem.run_pure], .bool _⟩
     · simp at ha
 · rename_i h1 h2 h3
   by_cases hni : ∃ k n, x = .int k n
   · obtain ⟨k, n, rfl⟩ := hni
     exfalso
     split at ha <;> simp only [Option.map_eq_some_iff, reduceCtorEq] at ha
     all_goals
      obtain ⟨r, hr, _⟩ := ha
      unfold zdz at hr
      split at hr <;> first | exact h1 _ _ _ _ rfl rfl | exact h2 _ _ rfl rfl | exact h3 _ _ rfl rfl | simp_all
   · by_cases hns : ∃ s, x = .str s
     · obtain ⟨s, rfl⟩ := hns
       exfalso
       split at ha <;> simp only [Option.map_eq_some_iff, reduceCtorEq] at ha
       all_goals
        obtain ⟨r, hr, _⟩ := ha
        unfold zdz at hr
        split at hr <;> first | exact h1 _ _ _ _ rfl rfl | exact h2 _ _ rfl rfl | exact h3 _ _ rfl rfl | simp_all
     · by_cases hna : ∃ l, x = .agg l
       · obtain ⟨l, rfl⟩ := hna
         exfalso
         split at ha <;> simp only [Option.map_eq_some_iff, reduceCtorEq] at ha
         all_goals
          obtain ⟨r, hr, _⟩ := ha
          unfold zdz at hr
          split at hr <;> first | exact h1 _ _ _ _ rfl rfl | exact h2 _ _ rfl rfl | exact h3 _ _ rfl rfl | simp_all
       · exact zua hx hy (fun k n e => hni ⟨k, n, e⟩) (fun s e => hns ⟨s, e⟩) (fun l e => hna ⟨l, e⟩) ha w

end Go.Abs

end

section
/- Operation by operation: maps. -/
set_option autoImplicit false
set_option linter.unusedVariables false
set_option linter.unusedSimpArgs false
namespace Go.Abs
variable {P : Program} {W0 : World} {σ : Sig} {h : zaa} {w : World}

theorem zfO {empty : Bool} : ∀ (d : Nat) (t : TypeId) (v : AV) (v' : Value) (w : World), VR σ v v' → zdH P d t v = true → (Instr.checkKey empty d t v').run P w = .ok () w
 | 0, _, _, _, _, _, ha => by simp [zdH] at ha
 | d + 1, t, v, v', w, hv, ha => by
  unfold zdH at ha
  split at ha
  · rename_i hu; cases hv; simp [Instr.checkKey, run_underlying hu]
  · rename_i hu; cases hv; simp [Instr.checkKey, run_underlying hu]
  · rename_i hu; cases hv; simp [Instr.checkKey, run_underlying hu]
  · rename_i len e cs hu
    split at ha
    · rename_i sz hsz
      cases hv with
      | agg _ m hm =>
      have hall := List.all_eq_true.1 ha
      simp only [Instr.checkKey, Sem.run_bind, run_underlying hu, Result.andThen_ok]
      simp only [Std.Legacy.Range.forIn_eq_forIn_range', Std.Legacy.Range.size, Nat.sub_zero, Nat.add_one_sub_one, Nat.div_one, List.range_eq_range'] at hall ⊢
      have key : ∀ (is : List Nat), (∀ i ∈ is, (match zer P e cs (i * sz) with | some x => zdH P d e x | none => false) = true) →
       (forIn is PUnit.unit fun i _ => (do Instr.checkKey empty d e (← part e m.toArray (i * (← sizeOf e))); pure (ForInStep.yield PUnit.unit) : Sem (ForInStep PUnit))).run P w = .ok PUnit.unit w := by
       intro is
       induction is with
       | nil => intro _; simp
       | cons i is ih =>
        intro hh
        have h0 := hh i (by simp)
        split at h0
        · rename_i x hx
          obtain ⟨x', e1, e2⟩ := zeg hm hx w
          have e3 := zfO (empty := empty) d e x x' w e2 h0
          simp only [List.forIn_cons, Sem.run_bind, zaL hsz, Result.andThen_ok, e1, e3, Sem.run_pure]
          exact ih fun j hj => hh j (by simp [hj])
        · cases h0
      rw [key _ hall]; rfl
    · simp at ha
  · rename_i fs cs hu
    cases hv with
    | agg _ m hm =>
    have hall := List.all_eq_true.1 ha
    simp only [Instr.checkKey, Sem.run_bind, run_underlying hu, Result.andThen_ok]
    rw [← Array.forIn_toList]
    have key : ∀ (l : List Field), (∀ f ∈ l, (match zer P f.type cs f.offset with | some x => zdH P d f.type x | none => false) = true) →
     (forIn l PUnit.unit fun f _ => (if f.name ≠ "_" then (do Instr.checkKey empty d f.type (← part f.type m.toArray f.offset); pure (ForInStep.yield PUnit.unit)) else pure (ForInStep.yield PUnit.unit) : Sem (ForInStep PUnit))).run P w = .ok PUnit.unit w := by
     intro l
     induction l with
     | nil => intro _; simp
     | cons f l ih =>
      intro hh
      have h0 := hh f (by simp)
      split at h0
      · rename_i x hx
        obtain ⟨x', e1, e2⟩ := zeg hm hx w
        have e3 := zfO (empty := empty) d f.type x x' w e2 h0
        simp only [List.forIn_cons, Sem.run_bind]
        split
        · simp only [Sem.run_bind, e1, e3, Result.andThen_ok, Sem.run_pure]
          exact ih fun j hj => hh j (by simp [hj])
        · simp only [Sem.run_pure, Result.andThen_ok]
          exact ih fun j hj => hh j (by simp [hj])
      · cases h0
    rw [key _ hall]; rfl
  · simp at ha

def zu7 (σ : Sig) : Option (Nat × AV) → Option (Nat × Value) → Prop
 | none, none => True
 | some x, some y => x.1 = y.1 ∧ VR σ x.2 y.2
 | _, _ => False

theorem zgq {kt : TypeId} {k : AV} {k' : Value} (hk : VR σ k k') (w : World) : ∀ {es : List (AV × AV × Nat)} {es' : List MapEntry} {i : Nat} {r : Option (Nat × AV)}, ERs σ es es' → zhS P kt k es i = some r →
 ∃ r', (Instr.findAsking kt k' es' i).run P w = .ok r' w ∧ zu7 σ r r'
 | _, _, _, _, .nil, ha => by simp [zhS] at ha; subst ha; exact ⟨none, by simp [Instr.findAsking], trivial⟩
 | _, _, i, r, .cons a v b e l m ha hv hb t, hr => by
  unfold zhS at hr
  simp only [Option.bind_eq_some_iff] at hr
  obtain ⟨q, hq, hr⟩ := hr
  have he := zg6 (σ := σ) (P := P) 10000 kt k a k' e.key q w hk ha hq
  have he' : (Op.equal kt k' e.key).run P w = .ok q w := he
  cases q with
  | true =>
   simp at hr; subst hr
   exact ⟨some (i, e.val), by simp [Instr.findAsking, he'], rfl, hv⟩
  | false =>
   simp at hr
   obtain ⟨r', h1, h2⟩ := zgq hk w t hr
   exact ⟨r', by simp [Instr.findAsking, he', h1], h2⟩

theorem zjN (w : World) {kt : TypeId} {d : TypeDesc} {k : AV} {k' : Value} (hd : P.underlying kt = some d) (hk : VR σ k k') : ∀ {es : List (AV × AV × Nat)} {es' : List MapEntry} {i : Nat} {r : Option (Nat × AV)} {r' : Option (Nat × Value)}, ERs σ es es' →
 zhS P kt k es i = some r → Instr.findNow d k' es' i = some r' → zu7 σ r r'
 | _, _, _, _, _, .nil, ha, hb => by simp [zhS] at ha; simp [Instr.findNow] at hb; subst ha; subst hb; trivial
 | _, _, i, r, r', .cons a v b e l m ha hv hb t, hr, hr' => by
  unfold zhS at hr
  simp only [Option.bind_eq_some_iff] at hr
  obtain ⟨q, hq, hr⟩ := hr
  unfold Instr.findNow at hr'
  have same : ∀ q', Instr.sameNow d k' e.key = some q' → q' = q := by
   intro q' h
   have he := zg6 (σ := σ) (P := P) 10000 kt k a k' e.key q w hk ha hq
   unfold Instr.sameNow at h
   split at h
   · rename_i hek
     split at h
     · rename_i hkk
       simp only [Option.some.injEq] at h; subst h
       subst hkk
       rw [hek, run_equalIn_int (P := P) w 9999 kt _ _ _ _ hd] at he
       simp only [Result.ok.injEq, and_true] at he
       exact he
     · simp at h
   · rename_i hek
     simp only [Option.some.injEq] at h; subst h
     rw [hek, run_equalIn_string (P := P) w 9999 kt _ _ hd] at he
     simp only [Result.ok.injEq, and_true] at he
     rw [beq_toListBytes]; exact he
   · rename_i hek
     simp only [Option.some.injEq] at h; subst h
     rw [hek, run_equalIn_bool' (P := P) w 9999 kt _ _ hd] at he
     simp only [Result.ok.injEq, and_true] at he
     exact he
   · simp at h
  split at hr'
  · rename_i h1
    obtain rfl := same _ h1
    simp at hr hr'; subst hr; subst hr'
    exact ⟨rfl, hv⟩
  · rename_i h1
    obtain rfl := same _ h1
    simp at hr
    exact zjN w hd hk t hr hr'
  · simp at hr'

theorem zgQ {kt : TypeId} {k : AV} {k' : Value} {es : List (AV × AV × Nat)} {es' : List MapEntry} {r : Option (Nat × AV)} {d : TypeDesc} (hd : P.underlying kt = some d) (hk : VR σ k k') (hes : ERs σ es es') (ha : zhS P kt k es 0 = some r) (w : World) :
 ∃ r', (Instr.findKey kt k' es').run P w = .ok r' w ∧ zu7 σ r r' := by
 cases hn : Instr.findNow d k' es' 0 with
 | some r' => exact ⟨r', by simp [Instr.findKey, run_underlying hd, hn], zjN w hd hk hes ha hn⟩
 | none =>
  obtain ⟨r', h1, h2⟩ := zgq hk w hes ha
  exact ⟨r', by simp only [Instr.findKey, Sem.run_bind, run_underlying hd, Result.andThen_ok, hn, h1], h2⟩

theorem zgK {d : Nat} {t : TypeId} {v : AV} (ha : zdH P d t v = true) : ∃ td, P.underlying t = some td := by
 cases d with
 | zero => simp [zdH] at ha
 | succ d =>
  cases hu : P.underlying t with
  | none => simp [zdH, hu] at ha
  | some td => exact ⟨td, rfl⟩

theorem zfc {t k e : TypeId} (hm : zcM P t = some (k, e)) : P.underlying t = some (.map k e) := by
 unfold zcM at hm
 split at hm
 · rename_i k' e' hu; simp at hm; obtain ⟨rfl, rfl⟩ := hm; exact hu
 · simp at hm

theorem zel {r : Nat} {es : List (AV × AV × Nat)} {c : Nat} (he : zbX h r = some (es, c)) : ∃ s, h[r]? = some (.mp es c s) := by
 unfold zbX at he
 split at he
 · rename_i es' c' s hu; simp at he; obtain ⟨rfl, rfl⟩ := he; exact ⟨s, hu⟩
 · simp at he
theorem Rel.objMap (R : Rel W0 σ h w) {r : Nat} {es : List (AV × AV × Nat)} {c : Nat} {p : Plc} (he : zbX h r = some (es, c)) (hp : σ[r]? = some p) : ∃ es', w.heap[p.blk]? = some (.map es' c) ∧ ERs σ es es'.toList := by
 obtain ⟨s, hb⟩ := zel he
 exact R.obj hb hp

theorem zn2 (R : Rel W0 σ h w) {t : TypeId} {m k v : AV} {m' k' : Value} {ok : Bool} (hm : VR σ m m') (hk : VR σ k k') (ha : zb4 P h t m k ok = some v) :
 ∃ v', (Instr.lookup t m' k' ok).run P w = .ok v' w ∧ VR σ v v' := by
 unfold zb4 at ha
 split at ha
 · simp at ha
 · rename_i kt et hmt
   have hu := zfc hmt
   simp only [Option.bind_eq_some_iff] at ha
   obtain ⟨es, hes, ha⟩ := ha
   split at ha
   · rename_i hko
     simp only [Option.bind_eq_some_iff] at ha
     obtain ⟨r, hr, ha⟩ := ha
     obtain ⟨td, htd⟩ := zgK hko
     -- the entries in the world
     have hrow : ∃ es' : Array MapEntry, ERs σ es es'.toList ∧ ((m' = .map none ∧ es' = #[]) ∨ ∃ b c, m' = .map (some b) ∧ (getObj b).run P w = .ok (.map es' c) w) := by
      unfold zgB at hes
      split at hes
      · simp at hes; subst hes; cases hm; exact ⟨#[], .nil, .inl ⟨rfl, rfl⟩⟩
      · rename_i r0
        simp only [Option.map_eq_some_iff] at hes
        obtain ⟨⟨es0, c0⟩, he0, rfl⟩ := hes
        cases hm with
        | map _ p hp =>
        obtain ⟨es', h1, h2⟩ := R.objMap he0 hp
        have hg : (getObj p.blk).run P w = .ok (.map es' c0) w := by simp [getObj, Sem.run, h1]
        exact ⟨es', h2, .inr ⟨p.blk, c0, rfl, hg⟩⟩
      · simp at hes
     obtain ⟨es', he1, he2⟩ := hrow
     obtain ⟨r', hf1, hf2⟩ := zgQ (P := P) htd hk he1 hr w
     have hck := zfO (empty := es'.isEmpty) 10000 kt k k' w hk hko
     have fin : ∀ y : Option (Nat × Value), zu7 σ r y → ∃ v', ((match y with
           | some (_, v) => pure (v, true)
           | none => (do pure (← zeroValue et, false)) : Sem (Value × Bool)).run P w = .ok v' w) ∧ VR σ v (if ok then .tuple #[v'.1, .bool v'.2] else v'.1) := by
      intro y hy
      cases r with
      | some x =>
       cases y with
       | none => exact hy.elim
       | some y =>
       simp at ha; subst ha
       refine ⟨(y.2, true), by simp, ?_⟩
       cases ok with
       | true => exact .tup _ _ (.cons _ _ _ _ hy.2 (.cons _ _ _ _ (.bool true) .nil))
       | false => exact hy.2
      | none =>
       cases y with
       | some y => exact hy.elim
       | none =>
       simp only [Option.map_eq_some_iff] at ha
       obtain ⟨z, hz, rfl⟩ := ha
       obtain ⟨zv, hz1, hz2⟩ := zcI hz σ w
       refine ⟨(zv, false), by simp [hz1], ?_⟩
       cases ok with
       | true => exact .tup _ _ (.cons _ _ _ _ hz2 (.cons _ _ _ _ (.bool false) .nil))
       | false => exact hz2
     obtain ⟨v', hv1, hv2⟩ := fin r' hf2
     refine ⟨_, ?_, hv2⟩
     rcases he2 with ⟨rfl, rfl⟩ | ⟨b, c, rfl, hg⟩
     · simp only [Instr.lookup, Sem.run_bind, run_underlying hu, Result.andThen_ok, Sem.run_pure, hck, hf1]
       cases r' with
       | some y => simp at hv1; subst hv1; cases ok <;> simp
       | none =>
        cases hzz : (zeroValue et).run P w with
        | ok a b => simp [hzz] at hv1; obtain ⟨rfl, rfl⟩ := hv1; cases ok <;> simp [hzz]
        | halt a b => simp [hzz] at hv1
     · simp only [Instr.lookup, Sem.run_bind, run_underlying hu, Result.andThen_ok, Sem.run_pure, hg, hck, hf1]
       cases r' with
       | some y => simp at hv1; subst hv1; cases ok <;> simp
       | none =>
        cases hzz : (zeroValue et).run P w with
        | ok a b => simp [hzz] at hv1; obtain ⟨rfl, rfl⟩ := hv1; cases ok <;> simp [hzz]
        | halt a b => simp [hzz] at hv1
   · simp at ha

theorem ERs.length {σ : Sig} : ∀ {l : List (AV × AV × Nat)} {m : List MapEntry}, ERs σ l m → l.length = m.length
 | _, _, .nil => rfl
 | _, _, .cons _ _ _ _ _ _ _ _ _ t => by simp [t.length]

theorem ERs.get {σ : Sig} : ∀ {l : List (AV × AV × Nat)} {m : List MapEntry}, ERs σ l m → ∀ {i : Nat} {x}, l[i]? = some x → ∃ e, m[i]? = some e ∧ VR σ x.1 e.key ∧ VR σ x.2.1 e.val ∧ e.born = x.2.2
 | _, _, .nil, _, _, h => by simp at h
 | _, _, .cons k v b e l m hk hv hb t, 0, _, hx => by simp at hx; subst hx; exact ⟨e, rfl, hk, hv, hb⟩
 | _, _, .cons _ _ _ _ _ _ _ _ _ t, i + 1, _, hx => by simp at hx; obtain ⟨e, h1, h2⟩ := t.get hx; exact ⟨e, by simpa using h1, h2⟩

theorem ERs.modify {σ : Sig} {k v : AV} {b : Nat} (f : MapEntry → MapEntry) : ∀ {l : List (AV × AV × Nat)} {m : List MapEntry}, ERs σ l m → ∀ {i : Nat}, (∀ e, m[i]? = some e → VR σ k (f e).key ∧ VR σ v (f e).val ∧ (f e).born = b) → ERs σ (l.set i (k, v, b)) (m.modify i f)
 | _, _, .nil, i, _ => by cases i <;> exact .nil
 | _, _, .cons k0 v0 b0 e l m hk hv hb t, 0, hf => by
  obtain ⟨h1, h2, h3⟩ := hf e rfl
  exact .cons _ _ _ _ _ _ h1 h2 h3 t
 | _, _, .cons k0 v0 b0 e l m hk hv hb t, i + 1, hf => .cons _ _ _ _ _ _ hk hv hb (t.modify f fun e' he => hf e' (by simpa using he))

theorem ERs.snoc {σ : Sig} {k v : AV} {b : Nat} {e : MapEntry} (hk : VR σ k e.key) (hv : VR σ v e.val) (hb : e.born = b) : ∀ {l : List (AV × AV × Nat)} {m : List MapEntry}, ERs σ l m → ERs σ (l ++ [(k, v, b)]) (m ++ [e])
 | _, _, .nil => .cons _ _ _ _ _ _ hk hv hb .nil
 | _, _, .cons _ _ _ _ _ _ h1 h2 h3 t => .cons _ _ _ _ _ _ h1 h2 h3 (t.snoc hk hv hb)

theorem ERs.erase {σ : Sig} : ∀ {l : List (AV × AV × Nat)} {m : List MapEntry}, ERs σ l m → ∀ (i : Nat), ERs σ (l.eraseIdx i) (m.eraseIdx i)
 | _, _, .nil, i => by simp; exact .nil
 | _, _, .cons _ _ _ _ _ _ _ _ _ t, 0 => by simpa using t
 | _, _, .cons _ _ _ _ _ _ h1 h2 h3 t, i + 1 => by simpa using .cons _ _ _ _ _ _ h1 h2 h3 (t.erase i)

theorem Below.putObj {B : Nat} {a w : World} (hb : RowKit.Below B a w) {r : Nat} (hr : B ≤ r) (o : Obj) : RowKit.Below B a (w.putObj r o) :=
 hb.trans ⟨rfl, rfl, rfl, by simp, fun k hk => World.putObj_heap_other (by omega)⟩

theorem Rel.setObj (R : Rel W0 σ h w) {i : Nat} {b b' : ABlk} {p : Plc} (hb : h[i]? = some b) (hp : σ[i]? = some p) (hm : b.mine = true) (hro : b.isRo = false) (hpar : b.par = none) (hm' : b'.isFar = false) (o : Obj)
 (ho : ObjR σ p (w.putObj p.blk o) b') : Rel W0 σ (h.set i b') (w.putObj p.blk o) ∧ Stp σ h w σ (h.set i b') (w.putObj p.blk o) := by
 have := R.modify (w' := w.putObj p.blk o) hb hp hm hro hm' (fun k hk => World.putObj_heap_other hk) (by simp) (Below.putObj R.below (R.own hb hp hm) o) ho
 rw [hpar] at this
 exact this

theorem Rel.setMap (R : Rel W0 σ h w) {r c c2 : Nat} {es es2 : List (AV × AV × Nat)} {es2' : Array MapEntry} {p : Plc} (he : zbX h r = some (es, c)) (hp : σ[r]? = some p) (h2 : ERs σ es2 es2'.toList) :
 (Go.setObj p.blk (.map es2' c2)).run P w = .ok () (w.putObj p.blk (.map es2' c2)) ∧ Rel W0 σ (h.set r (.mp es2 c2 false)) (w.putObj p.blk (.map es2' c2)) ∧ Stp σ h w σ (h.set r (.mp es2 c2 false)) (w.putObj p.blk (.map es2' c2)) := by
 obtain ⟨sy, hb⟩ := zel he
 obtain ⟨es', h1, _⟩ := R.obj hb hp
 have hlt : p.blk < w.heap.size := (Array.getElem?_eq_some_iff.1 h1).1
 have key := R.setObj (b' := .mp es2 c2 false) hb hp rfl rfl rfl rfl (.map es2' c2) ⟨es2', World.putObj_heap_same hlt, h2⟩
 refine ⟨?_, key⟩
 simp [Go.setObj, Sem.run, h1, World.putObj]

theorem zkK {a b : AV} {x y : Value} (hx : VR σ a x) (hy : VR σ b y) (he : AV.beq a b = true) (hb : b.plain = true) (n : Nat) : Instr.sameBits n x y = true := by
 cases hy <;> simp [AV.plain] at hb <;> cases hx <;> simp [AV.beq] at he
 · subst he; cases n <;> simp [Instr.sameBits]
 · obtain ⟨rfl, rfl⟩ := he; cases n <;> simp [Instr.sameBits]
 · rename_i s s'
   have : s' = s := ByteArray.ext he
   subst this; cases n <;> simp [Instr.sameBits] <;> exact (MapKept.bytes_beq _ _).2 rfl

theorem zsz {a b : AV} {x y : Value} (hx : VR σ a x) (hy : VR σ b y) (he : AV.beq a b = true) (hb : b.flat = true) (n : Nat) : Instr.sameBits (n + 1) x y = true := by
 by_cases hp : b.plain = true
 · exact zkK hx hy he hp _
 · unfold AV.flat at hb
   split at hb
   · rename_i l
     cases hy with
     | agg _ m hm =>
     cases hx <;> simp [AV.beq] at he
     rename_i l' m' hm'
     simp only [Instr.sameBits]
     have key : ∀ {l l' : List AV} {m m' : List Value}, VRs σ l m → VRs σ l' m' → AV.beqs l' l = true → l.all AV.plain = true →
      m'.length = m.length ∧ ((m'.zip m).all fun (x, y) => Instr.sameBits n x y) = true := by
      intro l
      induction l with
      | nil => intro l' m m' h1 h2 h3 _; cases l' with
       | nil => cases h1; cases h2; simp
       | cons a l' => simp [AV.beqs] at h3
      | cons b l ih => intro l' m m' h1 h2 h3 h4; cases l' with
       | nil => simp [AV.beqs] at h3
       | cons a l' =>
        simp [AV.beqs] at h3
        simp at h4
        cases h1 with
        | cons _ y _ m h1 t1 =>
        cases h2 with
        | cons _ x _ m' h2 t2 =>
        obtain ⟨e1, e2⟩ := ih t1 t2 h3.2 (by simpa using h4.2)
        refine ⟨by simp [e1], ?_⟩
        simp only [List.zip_cons_cons, List.all_cons, Bool.and_eq_true]
        exact ⟨zkK h2 h1 h3.1 h4.1 n, e2⟩
     obtain ⟨e1, e2⟩ := key hm hm' he (by simpa using hb)
     simp [e1, e2]
   · exact absurd hb hp

theorem zsF {a b : AV} {x y : Value} (hx : VR σ a x) (hy : VR σ b y) (he : AV.beq a b = true) (hb : b.flat = true) (w : World) : (Instr.keyThatStays x y).run P w = .ok y w := by
 simp [Instr.keyThatStays, zsz hx hy he hb 9999]

theorem zge {p : Plc} {es : Array MapEntry} {c : Nat} (hh : w.heap[p.blk]? = some (.map es c)) : (getObj p.blk).run P w = .ok (.map es c) w := by simp [getObj, Sem.run, hh]

theorem zmE (R : Rel W0 σ h w) {t : TypeId} {r : Nat} {p : Plc} {k : AV} {k' : Value} {old : AV → AV} {new : Option AV} {y : AV × Nat × zaa} (hp : σ[r]? = some p) (hk : VR σ k k') (ha : zkA P h t r k old new = some y) :
 ∃ kt et es c es' r', P.underlying t = some (.map kt et) ∧ zcM P t = some (kt, et) ∧ zbX h r = some (es, c) ∧ ERs σ es es'.toList ∧ w.heap[p.blk]? = some (.map es' c) ∧
  (Instr.checkKey false 10000 kt k').run P w = .ok () w ∧ (Instr.findKey kt k' es'.toList).run P w = .ok r' w ∧
  ((∃ i v v' e e', r' = some (i, v') ∧ VR σ v v' ∧ y.1 = v ∧ es'[i]? = some e' ∧ es[i]? = some e ∧ (Instr.keyThatStays e'.key k').run P w = .ok k' w ∧ e'.born = e.2.2 ∧ VR σ e.2.1 e'.val ∧ y = (v, e.2.2, h.set r (.mp (es.set i (k, old e.2.1, e.2.2)) c false))) ∨
   (∃ z, r' = none ∧ new = some z ∧ y = (z, c, h.set r (.mp (es ++ [(k, z, c)]) (c + 1) false)))) := by
 unfold zkA at ha
 split at ha
 · rename_i kt et es c hmt hent
   split at ha
   · rename_i hko
     simp only [Option.bind_eq_some_iff] at ha
     obtain ⟨q, hq, ha⟩ := ha
     obtain ⟨td, htd⟩ := zgK hko
     obtain ⟨es', h1, h2⟩ := R.objMap hent hp
     obtain ⟨r', hf1, hf2⟩ := zgQ (P := P) htd hk h2 hq w
     refine ⟨kt, et, es, c, es', r', zfc hmt, hmt, hent, h2, h1, zfO 10000 kt k k' w hk hko, hf1, ?_⟩
     cases q with
     | some x =>
      cases r' with
      | none => exact hf2.elim
      | some x' =>
      obtain ⟨i, v⟩ := x
      obtain ⟨i', v'⟩ := x'
      obtain ⟨e1, e2⟩ := hf2
      simp at e1 e2; subst e1
      simp only at ha
      split at ha
      · rename_i e he
        split at ha
        · rename_i hb
          simp at ha; subst ha
          obtain ⟨e', g1, g2, g3, g4⟩ := h2.get he
          refine .inl ⟨i, v, v', e, e', rfl, e2, rfl, by simpa using g1, he, zsF g2 hk hb.1 hb.2 w, g4, g3, rfl⟩
        · simp at ha
      · simp at ha
     | none =>
      cases r' with
      | some x' => exact hf2.elim
      | none =>
      simp only [Option.map_eq_some_iff] at ha
      obtain ⟨z, hz, rfl⟩ := ha
      exact .inr ⟨z, rfl, hz, rfl⟩
   · simp at ha
 · simp at ha

theorem zgs (R : Rel W0 σ h w) {t : TypeId} {m k v : AV} {m' k' v' : Value} {h' : zaa} (hm : VR σ m m') (hk : VR σ k k') (hv : VR σ v v') (ha : zcP P h t m k v = some h') :
 ∃ w', (Instr.mapUpdate t m' k' v').run P w = .ok () w' ∧ Rel W0 σ h' w' ∧ Stp σ h w σ h' w' := by
 unfold zcP at ha
 split at ha
 · rename_i r
   simp only [Option.map_eq_some_iff] at ha
   obtain ⟨y, hy, rfl⟩ := ha
   cases hm with
   | map _ p hp =>
   obtain ⟨kt, et, es, c, es', r', hu, hmt, hent, h2, h1, hck, hf, hcase⟩ := zmE R hp hk hy
   have hg := zge (P := P) h1
   rcases hcase with ⟨i, v0, v0', e, e', rfl, _, _, g1, g2, g3, g4, g5, rfl⟩ | ⟨z, rfl, hz, rfl⟩
   · obtain ⟨s1, s2, s3⟩ := R.setMap (P := P) (c2 := c) (es2' := es'.modify i fun e => { e with key := k', val := v' }) hent hp
       (es2 := es.set i (k, v, e.2.2)) (by
        rw [Array.toList_modify]
        exact h2.modify _ fun e0 he0 => ⟨hk, hv, by
         have : e' = e0 := by simpa [Array.getElem?_toList, g1] using he0
         subst this; exact g4⟩)
     exact ⟨_, by simp [Instr.mapUpdate, run_underlying hu, hg, hck, hf, g1, g3, s1], s2, s3⟩
   · simp at hz; subst hz
     obtain ⟨s1, s2, s3⟩ := R.setMap (P := P) (c2 := c + 1) (es2' := es'.push { key := k', val := v', born := c }) hent hp
      (es2 := es ++ [(k, v, c)]) (by rw [Array.toList_push]; exact h2.snoc (e := { key := k', val := v', born := c }) hk hv rfl)
     exact ⟨_, by simp [Instr.mapUpdate, run_underlying hu, hg, hck, hf, s1], s2, s3⟩
 · simp at ha

theorem zgV (R : Rel W0 σ h w) {t : TypeId} {m k : AV} {m' k' : Value} {y : AV × zaa} (hm : VR σ m m') (hk : VR σ k k') (ha : zbO P h t m k = some y) :
 ∃ v' w', (Instr.mapEntry t m' k').run P w = .ok v' w' ∧ Rel W0 σ y.2 w' ∧ Stp σ h w σ y.2 w' ∧ VR σ y.1 v' := by
 unfold zbO at ha
 split at ha
 · rename_i r
   simp only [Option.map_eq_some_iff] at ha
   obtain ⟨y, hy, rfl⟩ := ha
   cases hm with
   | map _ p hp =>
   obtain ⟨kt, et, es, c, es', r', hu, hmt, hent, h2, h1, hck, hf, hcase⟩ := zmE R hp hk hy
   have hg := zge (P := P) h1
   rcases hcase with ⟨i, v0, v0', e, e', rfl, hv0, _, g1, g2, g3, g4, g5, rfl⟩ | ⟨z, rfl, hz, rfl⟩
   · obtain ⟨s1, s2, s3⟩ := R.setMap (P := P) (c2 := c) (es2' := es'.modify i fun e => { e with key := k' }) hent hp
       (es2 := es.set i (k, id e.2.1, e.2.2)) (by
        rw [Array.toList_modify]
        exact h2.modify _ fun e0 he0 => by
         have : e' = e0 := by simpa [Array.getElem?_toList, g1] using he0
         subst this; exact ⟨hk, g5, g4⟩)
     exact ⟨_, _, by simp [Instr.mapEntry, run_underlying hu, hg, hck, hf, g1, g3, s1, g4, goInt], s2, s3,
      .tup _ [v0', .int .i64 e.2.2] (.cons _ _ _ _ hv0 (.cons _ _ _ _ (.int _ _) .nil))⟩
   · simp only [Option.bind_eq_some_iff] at hz
     obtain ⟨q, hq, hz⟩ := hz
     rw [hmt] at hq; simp at hq; subst hq
     obtain ⟨zv, hz1, hz2⟩ := zcI hz σ w
     obtain ⟨s1, s2, s3⟩ := R.setMap (P := P) (c2 := c + 1) (es2' := es'.push { key := k', val := zv, born := c }) hent hp
      (es2 := es ++ [(k, z, c)]) (by rw [Array.toList_push]; exact h2.snoc (e := { key := k', val := zv, born := c }) hk hz2 rfl)
     exact ⟨_, _, by simp [Instr.mapEntry, run_underlying hu, hg, hck, hf, hz1, s1]; rfl, s2, s3,
      .tup _ _ (.cons _ _ _ _ hz2 (.cons _ _ _ _ (.int _ _) .nil))⟩
 · simp at ha

theorem ERs.findIdx {σ : Sig} (b : Int) : ∀ {l : List (AV × AV × Nat)} {m : List MapEntry}, ERs σ l m → m.findIdx? (fun e => (e.born : Int) == b) = l.findIdx? (fun e => (e.2.2 : Int) == b)
 | _, _, .nil => by simp
 | _, _, .cons k v n e l m hk hv hb t => by simp only [List.findIdx?_cons, hb, t.findIdx]

theorem zm0 (xs : Array MapEntry) (p : MapEntry → Bool) : xs.findIdx? p = xs.toList.findIdx? p := by
 obtain ⟨l⟩ := xs; simp

theorem zfI (R : Rel W0 σ h w) {t : TypeId} {m s v : AV} {m' s' v' : Value} {h' : zaa} (hm : VR σ m m') (hs : VR σ s s') (hv : VR σ v v') (ha : zcW h m s v = some h') :
 ∃ w', (Instr.entryStore t m' s' v').run P w = .ok () w' ∧ Rel W0 σ h' w' ∧ Stp σ h w σ h' w' := by
 unfold zcW at ha
 split at ha
 · rename_i r k b
   split at ha
   · rename_i es c hent
     simp only [Option.bind_eq_some_iff, Option.map_eq_some_iff] at ha
     obtain ⟨i, hi, e, he, rfl⟩ := ha
     cases hs
     cases hm with
     | map _ p hp =>
     obtain ⟨es', h1, h2⟩ := R.objMap hent hp
     have hg := zge (P := P) h1
     obtain ⟨e', g1, g2, g3, g4⟩ := h2.get he
     obtain ⟨s1, s2, s3⟩ := R.setMap (P := P) (c2 := c) (es2' := es'.modify i fun e => { e with val := v' }) hent hp
      (es2 := es.set i (e.1, v, e.2.2)) (by
       rw [Array.toList_modify]
       exact h2.modify _ fun e0 he0 => by
        have : e' = e0 := by simpa [Array.getElem?_toList, g1] using he0
        subst this; exact ⟨g2, hv, g4⟩)
     have hfi : es'.findIdx? (fun e => (e.born : Int) == b) = some i := by
      rw [zm0, h2.findIdx b, hi]
     exact ⟨_, by simp [Instr.entryStore, hg, asInt, asIntOf, hfi, s1], s2, s3⟩
   · simp at ha
 · simp at ha

theorem zjV {α : Type} (a : Array α) (i : Nat) : (a.eraseIdxIfInBounds i).toList = a.toList.eraseIdx i := by
 unfold Array.eraseIdxIfInBounds
 split
 · simp
 · rename_i hh; rw [List.eraseIdx_of_length_le (by simpa using hh)]

theorem zjb (R : Rel W0 σ h w) {t ty : TypeId} {ts : Array TypeId} {m k : AV} {m' k' : Value} {h' : zaa} (ht : ts[0]? = some t) (hm : VR σ m m') (hk : VR σ k k') (ha : zfj P h t m k = some h') :
 ∃ w', (Builtin.delete_ ts ty #[m', k']).run P w = .ok (.tuple #[]) w' ∧ Rel W0 σ h' w' ∧ Stp σ h w σ h' w' := by
 unfold zfj at ha
 split at ha
 · simp at ha
 · rename_i kt et hmt
   have hu := zfc hmt
   split at ha
   · rename_i hko
     have hck : ∀ b, (Instr.checkKey b 10000 kt k').run P w = .ok () w := fun b => zfO 10000 kt k k' w hk hko
     split at ha
     · cases hm; simp at ha; subst ha
       exact ⟨w, by simp [Builtin.delete_, ht, run_underlying hu, hck], R, Stp.refl _ _ _⟩
     · rename_i r
       split at ha
       · rename_i es c hent
         simp only [Option.map_eq_some_iff] at ha
         obtain ⟨q, hq, rfl⟩ := ha
         obtain ⟨td, htd⟩ := zgK hko
         cases hm with
         | map _ p hp =>
         obtain ⟨es', h1, h2⟩ := R.objMap hent hp
         have hg := zge (P := P) h1
         obtain ⟨r', hf1, hf2⟩ := zgQ (P := P) htd hk h2 hq w
         cases q with
         | some x =>
          cases r' with
          | none => exact hf2.elim
          | some x' =>
          obtain ⟨i, v⟩ := x
          obtain ⟨i', v'⟩ := x'
          obtain ⟨e1, e2⟩ := hf2
          simp at e1; subst e1
          obtain ⟨s1, s2, s3⟩ := R.setMap (P := P) (c2 := c) (es2' := es'.eraseIdxIfInBounds i) hent hp
           (es2 := es.eraseIdx i) (by rw [zjV]; exact h2.erase i)
          exact ⟨_, by simp [Builtin.delete_, ht, run_underlying hu, hck, hg, hf1, s1], s2, s3⟩
         | none =>
          cases r' with
          | some x' => exact hf2.elim
          | none =>
          obtain ⟨s1, s2, s3⟩ := R.setMap (P := P) (c2 := c) (es2' := es') hent hp h2
          exact ⟨_, by simp [Builtin.delete_, ht, run_underlying hu, hck, hg, hf1, s1], s2, s3⟩
       · simp at ha
     · simp at ha
   · simp at ha

theorem Rel.alike (R : Rel W0 σ h w) {i : Nat} {b b' : ABlk} (hi : h[i]? = some b) (hm : b'.mine = b.mine) (hr : b'.isRo = b.isRo) (hp : b'.par = b.par) (ho : ∀ p, ObjR σ p w b → ObjR σ p w b') (hf : ∀ vs e par, b' ≠ .cells vs e .far par) :
 Rel W0 σ (h.set i b') w ∧ ∀ x, Own (h.set i b') σ x → Own h σ x := by
 have key : ∀ {j : Nat} {c' : ABlk}, (h.set i b')[j]? = some c' → ∃ c, h[j]? = some c ∧ c'.mine = c.mine ∧ c'.isRo = c.isRo ∧ c'.par = c.par ∧ ((c' = c) ∨ (c = b ∧ c' = b')) := by
  intro j c' hj
  by_cases hij : i = j
  · subst hij
    have hlt := (List.getElem?_eq_some_iff.1 hi).1
    rw [List.getElem?_set_self hlt] at hj
    cases hj
    exact ⟨b, hi, hm, hr, hp, .inr ⟨rfl, rfl⟩⟩
  · rw [List.getElem?_set_ne hij] at hj
    exact ⟨c', hj, rfl, rfl, rfl, .inl rfl⟩
 refine ⟨⟨by simp [R.len], fun h1 h2 => ?_, fun {j vs e par p} h1 h2 hvs => ?_, fun h1 h2 hm => ?_, fun {i j b b' p q} hij h1 h2 h3 h4 m1 m2 hpq => ?_, R.below⟩, ?_⟩
 · obtain ⟨c, e1, _, _, _, e2⟩ := key h1
   have hc := R.obj e1 h2
   rcases e2 with rfl | ⟨rfl, rfl⟩
   · exact hc
   · exact ho _ hc
 · obtain ⟨c, e1, _, _, _, e2⟩ := key h1
   rcases e2 with rfl | ⟨_, e3⟩
   · exact R.far e1 h2 hvs
   · exact absurd e3.symm (hf _ _ _)
 · obtain ⟨c, e1, e2, _⟩ := key h1
   exact R.own e1 h2 (e2 ▸ hm)
 · obtain ⟨b0, e1, e2, e3, e4, _⟩ := key h1
   obtain ⟨c0, f1, f2, f3, f4, _⟩ := key h2
   have := R.sep hij e1 f1 h3 h4 (e2 ▸ m1) (f2 ▸ m2) hpq
   rw [e3, e4, f3, f4]; exact this
 · rintro x ⟨j, c', p, h1, h2, h3, rfl⟩
   obtain ⟨c, e1, e2, _⟩ := key h1
   exact ⟨j, c, p, e1, h2, e2 ▸ h3, rfl⟩
theorem Rel.flag {W0 : World} {σ : Sig} {h0 h : zaa} {w0 w : World} {r : Nat} {x : Option zaa} (hx : x = some (zks h r x false)) (hr : r < h.length) (R : Rel W0 σ (zks h r x false) w) (s : Stp σ h0 w0 σ (zks h r x false) w) : Rel W0 σ (zks h r x true) w ∧ Stp σ h0 w0 σ (zks h r x true) w := by
 have hb : (zks h r x false)[r]? = some (.mp (opq (zAM r x)) (opq (zAL r x)) false) := by unfold zks; exact List.getElem?_set_self hr
 have e : zks h r x true = (zks h r x false).set r (.mp (opq (zAM r x)) (opq (zAL r x)) true) := by unfold zks; rw [List.set_set]
 obtain ⟨R1, ho⟩ := R.alike (b' := .mp (opq (zAM r x)) (opq (zAL r x)) true) hb rfl rfl rfl (fun p h => h) (by intros; simp)
 rw [← e] at R1 ho
 exact ⟨R1, ⟨s.ext, fun b hb => s.own b (ho b hb), s.same, s.size⟩⟩
theorem zwg {m : AV} (hs : zgn h m = true) : ∃ r, m = .map (some r) ∧ r < h.length := by
 unfold zgn at hs
 split at hs
 · rename_i r
   split at hs
   · rename_i hb
     exact ⟨r, rfl, (List.getElem?_eq_some_iff.1 hb).1⟩
   · cases hs
 · cases hs
theorem zeP {m : AV} {x : Option zaa} {h' : zaa} (hs : zgn h m = true) (ha : zeU h m x = some h') : ∃ r, m = .map (some r) ∧ r < h.length ∧ x = some (zks h r x false) ∧ h' = zks h r x true := by
 obtain ⟨r, rfl, hr⟩ := zwg hs
 simp only [zeU] at ha
 split at ha
 · rename_i hc
   rw [zab] at hc
   exact ⟨r, rfl, hr, hc, by simpa using ha.symm⟩
 · cases ha
theorem zh6 {t : TypeId} {m k v : AV} {ok : Bool} (ha : zeW P h t m k ok = some v) : zb4 P h t m k ok = some v := by
 unfold zeW at ha
 split at ha
 · simp only [Option.bind_eq_some_iff] at ha
   obtain ⟨u, _, ha⟩ := ha
   split at ha
   · rename_i hc
     rw [zab] at hc
     cases ha; exact hc
   · cases ha
 · exact ha
theorem zpt (R : Rel W0 σ h w) {t : TypeId} {m k v : AV} {m' k' : Value} {ok : Bool} (hm : VR σ m m') (hk : VR σ k k') (ha : zeW P h t m k ok = some v) :
 ∃ v', (Instr.lookup t m' k' ok).run P w = .ok v' w ∧ VR σ v v' := zn2 R hm hk (zh6 ha)
theorem zhe (R : Rel W0 σ h w) {t : TypeId} {m k v : AV} {m' k' v' : Value} {h' : zaa} (hm : VR σ m m') (hk : VR σ k k') (hv : VR σ v v') (ha : zdQ P h t m k v = some h') :
 ∃ w', (Instr.mapUpdate t m' k' v').run P w = .ok () w' ∧ Rel W0 σ h' w' ∧ Stp σ h w σ h' w' := by
 unfold zdQ at ha
 split at ha
 · rename_i hs
   obtain ⟨r, rfl, hr, hx, rfl⟩ := zeP hs ha
   obtain ⟨w', h1, R', s⟩ := zgs R hm hk hv hx
   obtain ⟨R2, s2⟩ := Rel.flag hx hr R' s
   exact ⟨w', h1, R2, s2⟩
 · exact zgs R hm hk hv ha
theorem zjT (R : Rel W0 σ h w) {t : TypeId} {m s v : AV} {m' s' v' : Value} {h' : zaa} (hm : VR σ m m') (hs : VR σ s s') (hv : VR σ v v') (ha : zdX h m s v = some h') :
 ∃ w', (Instr.entryStore t m' s' v').run P w = .ok () w' ∧ Rel W0 σ h' w' ∧ Stp σ h w σ h' w' := by
 unfold zdX at ha
 split at ha
 · rename_i hsy
   obtain ⟨r, rfl, hr, hx, rfl⟩ := zeP hsy ha
   obtain ⟨w', h1, R', s⟩ := zfI (t := t) R hm hs hv hx
   obtain ⟨R2, s2⟩ := Rel.flag hx hr R' s
   exact ⟨w', h1, R2, s2⟩
 · exact zfI R hm hs hv ha
theorem zp1 (R : Rel W0 σ h w) {t ty : TypeId} {ts : Array TypeId} {m k : AV} {m' k' : Value} {h' : zaa} (ht : ts[0]? = some t) (hm : VR σ m m') (hk : VR σ k k') (ha : zhx P h t m k = some h') :
 ∃ w', (Builtin.delete_ ts ty #[m', k']).run P w = .ok (.tuple #[]) w' ∧ Rel W0 σ h' w' ∧ Stp σ h w σ h' w' := by
 unfold zhx at ha
 split at ha
 · rename_i hs
   obtain ⟨r, rfl, hr, hx, rfl⟩ := zeP hs ha
   obtain ⟨w', h1, R', s⟩ := zjb (ty := ty) R ht hm hk hx
   obtain ⟨R2, s2⟩ := Rel.flag hx hr R' s
   exact ⟨w', h1, R2, s2⟩
 · exact zjb R ht hm hk ha
theorem zmQ (R : Rel W0 σ h w) {t : TypeId} {m k : AV} {m' k' : Value} {y : AV × zaa} (hm : VR σ m m') (hk : VR σ k k') (ha : zfF P h t m k = some y) :
 ∃ v' w', (Instr.mapEntry t m' k').run P w = .ok v' w' ∧ Rel W0 σ y.2 w' ∧ Stp σ h w σ y.2 w' ∧ VR σ y.1 v' := by
 unfold zfF at ha
 split at ha
 · rename_i hs
   obtain ⟨r, rfl, hr⟩ := zwg hs
   simp only [Option.bind_eq_some_iff] at ha
   obtain ⟨u, _, ha⟩ := ha
   split at ha
   · rename_i hc
     rw [zab] at hc
     cases ha
     obtain ⟨v', w', h1, R', s, hv⟩ := zgV R hm hk hc
     have hx := congrArg (Option.map Prod.snd) hc
     simp only [Option.map_some] at hx
     obtain ⟨R2, s2⟩ := Rel.flag hx hr R' s
     exact ⟨v', w', h1, R2, s2, hv⟩
   · cases ha
 · exact zgV R hm hk ha

end Go.Abs

end

section
/- The operations as they go on are the plain ones. -/
set_option autoImplicit false
set_option linter.unusedVariables false
set_option linter.unusedSimpArgs false
namespace Go.Abs
variable {P : Program} {h : zaa} {R : Type}

theorem zmv (d : Option TypeDesc) (x : Option AV) (K : AV → Option R) : zoH d x K = (zpy d x).bind K := by
 unfold zoH zpy
 split
 · split <;> rfl
 · split <;> rfl
 · split <;> rfl
 · rfl

theorem zdj (i o n : Nat) (K : List AV → Option R) : zeh h i o n K = (cellsAt h i o n).bind K := by
 unfold zeh cellsAt
 split
 · split <;> rfl
 · rfl

theorem zfE (i o : Nat) (xs : List AV) (K : zaa → Option R) : zjq h i o xs K = (putAt h i o xs).bind K := by
 unfold zjq putAt
 split
 · split <;> rfl
 · rfl

theorem zsW (t : TypeId) (a : AV) (K : AV → Option R) : zod P h t a K = (ziV P h t a).bind K := by
 unfold zod ziV
 split
 · split
   · rw [zdj, Option.bind_map]; rfl
   · rw [zmv]
   · rfl
 · rfl

theorem zoU (t : TypeId) (a v : AV) (K : zaa → Option R) : zlS P h t a v K = (zmH P h t a v).bind K := by
 unfold zlS zmH
 split
 · split
   · split
     · rw [zfE]
     · rfl
   · rfl
 · rfl

theorem zgS (t : TypeId) (cs : List AV) (off : Nat) (K : AV → Option R) : zic P t cs off K = (zer P t cs off).bind K := by
 unfold zic zer
 split
 · split <;> rfl
 · rw [zmv]
 · rfl

theorem zoT (xt : TypeId) (x : AV) (f : Nat) (K : AV → Option R) : zly P xt x f K = (zmD P xt x f).bind K := by
 unfold zly zmD
 split
 · split
   · rw [zgS]
   · rfl
 · rfl

theorem zjZ (t : TypeId) (x ix : AV) (K : AV → Option R) : zeV P t x ix K = (zeB P t x ix).bind K := by
 unfold zeV zeB
 split
 · split
   · split
     · split <;> rfl
     · rfl
   · split
     · split <;> rfl
     · rfl
   · rfl
 · rfl

theorem zpx (t : TypeId) (x ix : AV) (K : AV → Option R) : zk5 P t x ix K = (zmr P t x ix).bind K := by
 unfold zk5 zmr
 split
 · split
   · split
     · split
       · rw [zgS]
       · rfl
     · rfl
   · split <;> rfl
   · rfl
 · rfl

theorem ze8 (len cap : Nat) (lo hi : Option Int) (K : Nat → Nat → Option R) : zfY len cap lo hi K = (zcc len cap lo hi).bind fun x => K x.1 x.2 := by
 unfold zfY zcc
 split
 · split
   · split
     · split <;> rfl
     · rfl
   · rfl
 · split
   · split <;> rfl
   · rfl

theorem zpC (t : TypeId) (x : AV) (lo hi mx : Option AV) (K : AV → Option R) : zlz P t x lo hi mx K = (zml P t x lo hi mx).bind K := by
 unfold zlz zml
 split
 · split
   · split
     · rw [ze8, Option.bind_map]; rfl
     · rfl
   · split
     · split
       · rw [ze8, Option.bind_map]; rfl
       · split
         · rw [ze8, Option.bind_map]; rfl
         · rfl
       · rfl
     · rfl
   · split
     · rw [ze8, Option.bind_map]; rfl
     · rfl
   · rfl
 · rfl

theorem zjU (t : TypeId) (l c : AV) (same : Bool) (K : AV → zaa → Option R) : ze5 P h t l c same K = (zdP P h t l c same).bind fun x => K x.1 x.2 := by
 unfold ze5 zdP
 split
 · split
   · split
     · split <;> rfl
     · rfl
   · rfl
 · rfl

theorem zvc (e : TypeId) (sz by_ : Nat) (xt : Option TypeId) (x : AV) (K : Nat → List AV → Option R) : zxC P h e sz by_ xt x K = (zzU P h e sz by_ xt x).bind fun x => K x.1 x.2 := by
 unfold zxC zzU
 split
 · split
   · split
     · split <;> rfl
     · rfl
   · rfl
 · split <;> rfl
 · rw [zdj, Option.bind_map]; rfl
 · split <;> rfl
 · rfl

theorem zrl (i o len cap sz n : Nat) (new old : List AV) (K : AV → zaa → Option R) : zkj h i o len cap sz n new old K = (zkj h i o len cap sz n new old fun v h => some (v, h)).bind fun x => K x.1 x.2 := by
 unfold zkj
 split
 · split <;> rfl
 · rfl

theorem zn9 (ts : List TypeId) (s x : AV) (K : AV → zaa → Option R) : ziy P h ts s x K = (zhK P h ts s x).bind fun x => K x.1 x.2 := by
 unfold ziy zhK
 split
 · split
   · rw [zvc]
     simp only [Option.bind_assoc]
     congr 1
     funext y
     split
     · split
       · split <;> rfl
       · split
         · split
           · split <;> rfl
           · split
             · split
               · rfl
               · rw [zfE, Option.bind_map]; rfl
             · rw [zdj, Option.bind_map]; rfl
         · split
           · rw [zdj, Option.bind_assoc]
             congr 1
             funext old
             exact zrl _ _ _ _ _ _ _ _ _
           · split
             · split
               · rfl
               · rw [zfE, Option.bind_map]; rfl
             · rfl
     · rfl
   · rfl
 · rfl

theorem zeS (base : Option (Nat × Nat)) (dl sl : Nat) (cs : List AV) (K : AV → zaa → Option R) : zgj h base dl sl cs K = (zfx h base dl sl cs).bind fun x => K x.1 x.2 := by
 unfold zgj zfx
 split
 · rfl
 · split
   · split
     · rw [zfE, Option.bind_map]; rfl
     · rfl
   · rfl

theorem ztp (ts : List TypeId) (d s : AV) (K : AV → zaa → Option R) : zoG P h ts d s K = (zqy P h ts d s).bind fun x => K x.1 x.2 := by
 unfold zoG zqy
 split
 · split
   · split
     · split
       · rw [zeS]
       · rfl
     · split
       · rw [zeS]
       · rw [zdj, Option.bind_assoc]; congr 1; funext cs; rw [zeS]
     · split
       · rw [zeS]
       · rfl
     · rfl
   · rfl
 · rfl

theorem zp2 (t : TypeId) (x : AV) (K : zaa → Option R) : zlW P h t x K = (zkw P h t x).bind K := by
 unfold zlW zkw
 split
 · rfl
 · split
   · rfl
   · split
     · split
       · split
         · rw [zfE]
         · rfl
       · rfl
     · rfl
 · rfl

theorem zsi (op : BinOp) (k : IntKind) (a b : Int) (K : AV → Option R) : zsG op k a b K = (znJ op k a b).bind K := by
 unfold zsG
 split
 · simp only [znJ]; split <;> rfl
 · simp only [znJ]; split <;> rfl
 · rfl

theorem zfg {eq : TypeId → AV → AV → Option Bool} {eqK : TypeId → AV → AV → (Bool → Option R) → Option R} (H : ∀ t a b K, eqK t a b K = (eq t a b).bind K) (xs ys : List AV) : ∀ (fs : List Field) (K : Bool → Option R), zeC P eqK xs ys fs K = (zdv P eq xs ys fs).bind K
 | [], K => rfl
 | f :: fs, K => by
  unfold zeC zdv
  split
  · exact zfg H xs ys fs K
  · simp only [zgS, H, zfg H xs ys fs, Option.bind_assoc, Option.bind_map, Function.comp_def]
theorem zh5 {eq : TypeId → AV → AV → Option Bool} {eqK : TypeId → AV → AV → (Bool → Option R) → Option R} (H : ∀ t a b K, eqK t a b K = (eq t a b).bind K) (e : TypeId) (sz : Nat) (xs ys : List AV) : ∀ (n i : Nat) (K : Bool → Option R), zgW P eqK e sz xs ys n i K = (zfk P eq e sz xs ys n i).bind K
 | 0, i, K => rfl
 | n + 1, i, K => by
  unfold zgW zfk
  simp only [zgS, H, zh5 H e sz xs ys n, Option.bind_assoc, Option.bind_map, Function.comp_def]
theorem zg1 : ∀ (d : Nat) (t : TypeId) (x y : AV) (K : Bool → Option R), zkP P d t x y K = (zdz P d t x y).bind K
 | 0, _, _, _, _ => rfl
 | d + 1, t, x, y, K => by
  unfold zkP
  split
  · rename_i fs hu
    unfold zdz
    rw [hu]
    split
    · split
      · rename_i hh
        simp only [if_pos hh]; rfl
      · rename_i hh
        rw [zfg (zg1 d)]
    · rename_i hne
      cases x <;> cases y <;> first | rfl | exact (hne _ _ rfl rfl).elim
  · rename_i n e hu
    unfold zdz
    rw [hu]
    split
    · split
      · rename_i sz hs
        rw [zh5 (zg1 d)]; simp only [hs]
      · rename_i hs
        simp only [hs]; rfl
    · rename_i hne
      cases x <;> cases y <;> first | rfl | exact (hne _ _ rfl rfl).elim
  · rfl

theorem zuv (op : BinOp) (xt : TypeId) (x y : AV) (K : AV → Option R) : zvA P op xt x y K = (zqF P op xt x y).bind K := by
 unfold zvA
 split
 · split
   · simp only [zqF]; split <;> rfl
   · simp only [zqF]; split <;> rfl
   · rename_i op' h1 h2
     split
     · rename_i hk
       rw [zsi]
       unfold zqF
       cases op <;> first | exact (h1 rfl).elim | exact (h2 rfl).elim | (simp only [if_pos hk])
     · rename_i hk
       unfold zqF
       cases op <;> first | exact (h1 rfl).elim | exact (h2 rfl).elim | (simp only [if_neg hk]; rfl)
 · split
   · simp only [zqF]; split <;> rfl
   · rfl
 · simp only [zqF]
   split
   · rfl
   · split
     · rw [zg1, Option.bind_map]; rfl
     · rw [zg1, Option.bind_map]; rfl
     · rfl
 · rfl

theorem ztd (s d : TypeId) (x : AV) (K : AV → zaa → Option R) : zov P h s d x K = (zld P h s d x).bind fun x => K x.1 x.2 := by
 unfold zov zld
 split
 · rfl
 · rfl
 · split
   · split <;> rfl
   · rfl
 · split
   · split <;> rfl
   · rfl
 · split
   · split <;> rfl
   · rw [zdj, Option.bind_assoc]
     congr 1; funext cs
     split <;> rfl
   · rfl
 · rfl

theorem zhf (kt : TypeId) (k : AV) (K : Option (Nat × AV) → Option R) : ∀ (es : List (AV × AV × Nat)) (i : Nat), zkF P kt k K es i = (zhS P kt k es i).bind K
 | [], i => rfl
 | e :: r, i => by
  unfold zkF zhS
  rw [Option.bind_assoc]
  congr 1; funext b
  split
  · rfl
  · exact zhf kt k K r (i + 1)

theorem zmR (t : TypeId) (m k : AV) (ok : Bool) (K : AV → Option R) : zjA P h t m k ok K = (zb4 P h t m k ok).bind K := by
 unfold zjA zb4
 split
 · rfl
 · rw [Option.bind_assoc]
   congr 1; funext es
   split
   · rw [zhf, Option.bind_assoc]
     congr 1; funext y
     cases y with
     | none => simp only [Option.bind_map]; rfl
     | some y => rfl
   · rfl

theorem zkQ (t : TypeId) (r : Nat) (k : AV) (old : AV → AV) (new : Option AV) (K : AV → Nat → zaa → Option R) : zle P h t r k old new K = (zkA P h t r k old new).bind fun x => K x.1 x.2.1 x.2.2 := by
 unfold zle zkA
 split
 · split
   · rw [zhf, Option.bind_assoc]
     congr 1; funext y
     cases y with
     | none => simp only [Option.bind_map]; rfl
     | some y =>
      simp only
      split
      · split <;> rfl
      · rfl
   · rfl
 · rfl

theorem zi3 (t : TypeId) (m k v : AV) (K : zaa → Option R) : zfT P h t m k v K = (zcP P h t m k v).bind K := by
 unfold zfT zcP
 split
 · rw [zkQ, Option.bind_map]; rfl
 · rfl

theorem zjR (t : TypeId) (m k : AV) (K : AV → zaa → Option R) : zgJ P h t m k K = (zbO P h t m k).bind fun x => K x.1 x.2 := by
 unfold zgJ zbO
 split
 · rw [zkQ, Option.bind_map]; rfl
 · rfl

theorem zm7 (t : TypeId) (m k : AV) (K : zaa → Option R) : zjx P h t m k K = (zfj P h t m k).bind K := by
 unfold zjx zfj
 split
 · rfl
 · split
   · split
     · rfl
     · split
       · rw [zhf, Option.bind_map]
         congr 1; funext y
         cases y <;> rfl
       · rfl
     · rfl
   · rfl

theorem znf (t : TypeId) (m k : AV) (ok : Bool) (K : AV → Option R) : zio P h t m k ok K = (zeW P h t m k ok).bind K := by
 unfold zio zeW
 split
 · rw [Option.bind_assoc]
   congr 1; funext v
   split <;> rfl
 · exact zmR _ _ _ _ _
theorem zfC (m : AV) (x : Option zaa) (K : zaa → Option R) : zfU h m x K = (zeU h m x).bind K := by
 unfold zfU zeU
 split
 · split <;> rfl
 · rfl
theorem zjY (t : TypeId) (m k v : AV) (K : zaa → Option R) : zdr P h t m k v K = (zdQ P h t m k v).bind K := by
 unfold zdr zdQ
 split
 · exact zfC _ _ _
 · exact zi3 _ _ _ _ _
theorem znr (t : TypeId) (m k : AV) (K : zaa → Option R) : zit P h t m k K = (zhx P h t m k).bind K := by
 unfold zit zhx
 split
 · exact zfC _ _ _
 · exact zm7 _ _ _ _
theorem ziI (m s v : AV) (K : zaa → Option R) : zef h m s v K = (zdX h m s v).bind K := by
 unfold zef zdX
 split
 · exact zfC _ _ _
 · rfl
theorem zk6 (t : TypeId) (m k : AV) (K : AV → zaa → Option R) : zf0 P h t m k K = (zfF P h t m k).bind fun x => K x.1 x.2 := by
 unfold zf0 zfF
 split
 · split
   · rw [Option.bind_assoc]
     congr 1; funext v
     split <;> rfl
   · rfl
 · exact zjR _ _ _ _

theorem zhn (place : Nat → Option (Nat × Nat)) (K : List AV → Option R) : ∀ (ps : List (Nat × AV)) (cs : List AV), zj8 place K cs ps = (zgU place cs ps).bind K
 | [], cs => rfl
 | (i, v) :: r, cs => by
  unfold zj8 zgU
  split
  · split
    · exact zhn place K r _
    · rfl
  · rfl
theorem zpQ (t : TypeId) (ps : List (Nat × AV)) (K : AV → Option R) : zlY P t ps K = (zmh P t ps).bind K := by
 unfold zlY zmh
 split
 · rfl
 · split
   · split
     · rw [zhn]; cases zgU _ _ ps <;> rfl
     · rfl
   · split
     · rw [zhn]; cases zgU _ _ ps <;> rfl
     · rfl
   · rfl
theorem zjI (t : TypeId) (n : Nat) (ps : List (Nat × AV)) (K : AV → zaa → Option R) : zec P h t n ps K = (zcp P h t n ps).bind fun (x : AV × zaa) => K x.1 x.2 := by
 unfold zec zcp
 split
 · rfl
 · split
   · split
     · split
       · rw [zhn]; cases zgU _ _ ps <;> rfl
       · rfl
     · rfl
   · rfl
theorem zaN (env : Env) (o : Oper) (K : AV → zaa → Option R) (C : Fn → List AV → Option R) : aop P h env o K C = zdC P h env o K C := by
 unfold aop zdC
 simp only [zpQ, zjI, zsW, zoU, zuv, ztd, zjU, zpC, zoT, zjZ, zpx, znf, zjY, zk6, ziI, zn9, ztp, zp2, znr]

end Go.Abs

end
