/- The interpreter anew, quick in the kernel: slots in a tree; some answers are told ahead. Whatever it yields, the plain one yields. -/
import Derived.Test.YtmlmdbicbpicbaaAbs25
set_option autoImplicit false
set_option linter.unusedVariables false
set_option linter.unusedSimpArgs false
namespace Go.Abs
variable {P : Program}

/-! ### Slots -/

inductive Tr where
  | leaf
  | node (v : AV) (l r : Tr)

def Tr.get : Tr → Nat → Option AV
  | .leaf, _ => none
  | .node v l r, n => bif n.beq 0 then some v else bif (n % 2).beq 1 then l.get (n / 2) else r.get (n / 2 - 1)

def Tr.set : Tr → Nat → AV → Tr
  | .leaf, _, _ => .leaf
  | .node v l r, n, x => bif n.beq 0 then .node x l r else bif (n % 2).beq 1 then .node v (l.set (n / 2) x) r else .node v l (r.set (n / 2 - 1) x)

def Tr.mk (x : AV) : Nat → Nat → Tr
  | 0, _ => .leaf
  | f + 1, n => bif n.beq 0 then .leaf else .node x (mk x f (n / 2)) (mk x f ((n - 1) / 2))

def setL : Tr → Nat → List AV → Tr
  | t, _, [] => t
  | t, i, a :: l => setL (t.set i a) (i + 1) l

def ofL (l : List AV) : Tr := setL (Tr.mk .any l.length l.length) 0 l
def toL (n : Nat) (t : Tr) : List AV := (List.range n).map fun i => (t.get i).getD (.tup [])

theorem nbeq {n m : Nat} : n.beq m = decide (n = m) := by
  cases h : n.beq m with
  | true => exact (decide_eq_true (Nat.eq_of_beq_eq_true h)).symm
  | false => exact (decide_eq_false (Nat.ne_of_beq_eq_false h)).symm

theorem get_leaf (n : Nat) : Tr.leaf.get n = none := rfl
theorem get_node (v : AV) (l r : Tr) (n : Nat) : (Tr.node v l r).get n = if n = 0 then some v else if n % 2 = 1 then l.get (n / 2) else r.get (n / 2 - 1) := by
  rw [Tr.get]; simp only [nbeq, cond_eq_ite, decide_eq_true_eq]

theorem get_set : ∀ (t : Tr) (n m : Nat) (x : AV), (t.set n x).get m = if m = n then (t.get m).map (fun _ => x) else t.get m
  | .leaf, n, m, x => by simp [Tr.set, Tr.get]
  | .node v l r, n, m, x => by
    rw [Tr.set]
    simp only [nbeq, cond_eq_ite, decide_eq_true_eq]
    have il := get_set l (n / 2) (m / 2) x
    have ir := get_set r (n / 2 - 1) (m / 2 - 1) x
    by_cases hn : n = 0
    · rw [if_pos hn, get_node, get_node]
      by_cases hm : m = 0
      · simp [hm, hn]
      · rw [if_neg hm, if_neg hm, if_neg (by omega : ¬ m = n)]
    · rw [if_neg hn]
      by_cases h2 : n % 2 = 1
      · rw [if_pos h2, get_node, get_node, il]
        by_cases hm : m = 0
        · rw [if_pos hm, if_pos hm, if_neg (by omega)]
        · rw [if_neg hm, if_neg hm]
          by_cases h3 : m % 2 = 1
          · rw [if_pos h3, if_pos h3]
            by_cases h4 : m = n
            · rw [if_pos h4, if_pos (by omega)]
            · rw [if_neg h4, if_neg (by omega)]
          · rw [if_neg h3, if_neg h3, if_neg (by omega)]
      · rw [if_neg h2, get_node, get_node, ir]
        by_cases hm : m = 0
        · rw [if_pos hm, if_pos hm, if_neg (by omega)]
        · rw [if_neg hm, if_neg hm]
          by_cases h3 : m % 2 = 1
          · rw [if_pos h3, if_pos h3, if_neg (by omega)]
          · rw [if_neg h3, if_neg h3]
            by_cases h4 : m = n
            · rw [if_pos h4, if_pos (by omega)]
            · rw [if_neg h4, if_neg (by omega)]

theorem get_mk (x : AV) : ∀ (f n m : Nat), n ≤ f → (Tr.mk x f n).get m = if m < n then some x else none
  | 0, n, m, h => by
    have : n = 0 := by omega
    subst this
    simp [Tr.mk, Tr.get]
  | f + 1, n, m, h => by
    rw [Tr.mk]
    simp only [nbeq, cond_eq_ite, decide_eq_true_eq]
    by_cases hn : n = 0
    · rw [if_pos hn, get_leaf, if_neg (by omega)]
    · rw [if_neg hn, get_node, get_mk x f (n / 2) (m / 2) (by omega), get_mk x f ((n - 1) / 2) (m / 2 - 1) (by omega)]
      by_cases hm : m = 0
      · rw [if_pos hm, if_pos (by omega)]
      · rw [if_neg hm]
        by_cases h2 : m % 2 = 1
        · rw [if_pos h2]
          by_cases h3 : m < n
          · rw [if_pos h3, if_pos (by omega)]
          · rw [if_neg h3, if_neg (by omega)]
        · rw [if_neg h2]
          by_cases h3 : m < n
          · rw [if_pos h3, if_pos (by omega)]
          · rw [if_neg h3, if_neg (by omega)]

theorem get_setL : ∀ (l : List AV) (t : Tr) (i m : Nat), (∀ k, i ≤ k → k < i + l.length → (t.get k).isSome = true) → (setL t i l).get m = if i ≤ m ∧ m < i + l.length then l[m - i]? else t.get m
  | [], t, i, m, h => by rw [setL, if_neg (by rintro ⟨h1, h2⟩; simp only [List.length_nil] at h2; omega)]
  | a :: l, t, i, m, h => by
    rw [setL, get_setL l _ (i + 1) m (fun k h1 h2 => by rw [get_set]; have := h k (by omega) (by simp; omega); split <;> simp [this]), get_set]
    by_cases h1 : i + 1 ≤ m ∧ m < i + 1 + l.length
    · rw [if_pos h1, if_pos (by simp; omega)]
      obtain ⟨d, hd⟩ : ∃ d, m - i = d + 1 := ⟨m - i - 1, by omega⟩
      rw [hd, List.getElem?_cons_succ]; congr 1; omega
    · rw [if_neg h1]
      by_cases h2 : m = i
      · have hs := h i (Nat.le_refl _) (by simp)
        rw [if_pos h2, if_pos (by simp; omega)]
        subst h2
        rw [Option.isSome_iff_exists] at hs
        obtain ⟨y, hy⟩ := hs
        simp [hy]
      · rw [if_neg h2, if_neg (by simp; omega)]

/-- The tree holds these slots. -/
structure TR (n : Nat) (t : Tr) (env : Env) : Prop where
  len : env.length = n
  get : ∀ m, t.get m = env[m]?

theorem TR.ofL (l : List AV) : TR l.length (ofL l) l := by
  refine ⟨rfl, fun m => ?_⟩
  unfold Abs.ofL
  rw [get_setL l _ 0 m (fun k _ h => by rw [get_mk _ _ _ _ (Nat.le_refl _), if_pos (by omega)]; rfl)]
  by_cases h : m < l.length
  · rw [if_pos (by omega)]; simp
  · rw [if_neg (by omega), get_mk _ _ _ _ (Nat.le_refl _), if_neg h, List.getElem?_eq_none (by omega)]

theorem TR.toL {n : Nat} {t : Tr} {env : Env} (h : TR n t env) : toL n t = env := by
  apply List.ext_getElem?
  intro i
  unfold Abs.toL
  rw [List.getElem?_map]
  by_cases hi : i < n
  · rw [List.getElem?_range hi, Option.map_some, h.get, List.getElem?_eq_getElem (by rw [h.len]; exact hi)]; rfl
  · rw [List.getElem?_eq_none (by simp; omega), List.getElem?_eq_none (by rw [h.len]; omega)]; rfl

theorem TR.set {n : Nat} {t : Tr} {env : Env} (h : TR n t env) (d : Nat) (x : AV) : TR n (t.set d x) (env.set d x) := by
  refine ⟨by simp [h.len], fun m => ?_⟩
  rw [get_set, h.get, List.getElem?_set]
  by_cases e : m = d
  · subst e
    rw [if_pos rfl, if_pos rfl]
    split
    · rename_i hl; rw [List.getElem?_eq_getElem hl]; rfl
    · rename_i hl; rw [List.getElem?_eq_none (by omega)]; rfl
  · rw [if_neg e, if_neg (fun e' => e e'.symm)]

theorem TR.args {n : Nat} {args : List AV} (h : args.length ≤ n) : TR n (setL (Tr.mk (.tup []) n n) 0 args) (args ++ List.replicate (n - args.length) (.tup [])) := by
  refine ⟨by simp; omega, fun m => ?_⟩
  rw [get_setL args _ 0 m (fun k _ hk => by rw [get_mk _ _ _ _ (Nat.le_refl _), if_pos (by omega)]; rfl), get_mk _ _ _ _ (Nat.le_refl _)]
  by_cases h1 : m < args.length
  · rw [if_pos (by omega), List.getElem?_append_left h1]; simp
  · rw [if_neg (by omega), List.getElem?_append_right (by omega)]
    by_cases h2 : m < n
    · rw [if_pos h2, List.getElem?_replicate, if_pos (by omega)]
    · rw [if_neg h2, List.getElem?_replicate, if_neg (by omega)]

def aevT (t : Tr) : Operand → AV
  | .tmp i => (t.get i).getD (.tup [])
  | .const v => ofV v
  | .global _ => .any
  | .func f => .fn (.func f) []

theorem TR.ev {n : Nat} {t : Tr} {env : Env} (h : TR n t env) : aevT t = aev env := by
  funext o
  cases o with
  | tmp i => simp only [aevT, aev, h.get, List.getD]
  | const v => rfl
  | global g => rfl
  | func f => rfl

def tput (t : Tr) : Option Tmp → AV → Tr
  | none, _ => t
  | some d, v => t.set d v
theorem TR.put {n : Nat} {t : Tr} {env : Env} (h : TR n t env) (d : Option Tmp) (v : AV) : TR n (tput t d v) (aput env d v) := by
  cases d with
  | none => exact h
  | some d => exact h.set d v

/-! ### Operations -/

def aopV {R : Type} (P : Program) (h : AHeap) (ev : Operand → AV) (o : Oper) (K : AV → AHeap → Option R) (C : Fn → List AV → Option R) : Option R :=
  match o.op with
  | .move x => K (ev x) h
  | .assign x => K (ev x) h
  | .pick c a b =>
    match ev c with
    | .bool t => if t = true then K (ev a) h else K (ev b) h
    | _ => none
  | .alloc t => (aalloc P h t).bind fun (x : AV × AHeap) => K x.1 x.2
  | .box t v => (abox P h t (ev v)).bind fun (x : AV × AHeap) => K x.1 x.2
  | .build t ps => (abuild P t (ps.toList.map fun p => (p.1, ev p.2))).bind fun v => K v h
  | .buildSlice t n ps => (abuildSlice P h t n (ps.toList.map fun p => (p.1, ev p.2))).bind fun (x : AV × AHeap) => K x.1 x.2
  | .load t a => aloadK P h t (ev a) fun v => K v h
  | .store t a x => astoreK P h t (ev a) (ev x) fun h' => K (.tup []) h'
  | .nilCheck x =>
    match ev x with
    | .ptr (some a) => K (.ptr (some a)) h
    | .fn (.func f) c => K (.fn (.func f) c) h
    | .fn (.yield f) c => K (.fn (.yield f) c) h
    | _ => none
  | .binOp op xt x y _ => abinK P op xt (ev x) (ev y) fun v => K v h
  | .unOp op _ x => (aun op (ev x)).bind fun v => K v h
  | .convert s d x => aconvK P h s d (ev x) K
  | .sliceToArrayPointer arr x =>
    match P.underlying arr, ev x with
    | some (.array n _), .sl (some (i, o)) len _ _ => if n ≤ len ∧ 0 < n then K (.ptr (some (i, o))) h else none
    | _, _ => none
  | .makeFunc fn first cap => if first.isEmpty then (match fn with | .func f => K (.fn (.func f) (cap.toList.map ev)) h | _ => none) else none
  | .makeMap _ r => match r with
    | none => K (.map (some h.length)) (h ++ [.mp [] 0])
    | some _ => none
  | .makeSlice t l c => amakeSliceK P h t (ev l) (ev c) (opSame l c) K
  | .slice t x lo hi mx => asliceK P t (ev x) (lo.map ev) (hi.map ev) (mx.map ev) fun v => K v h
  | .fieldAddr s x f => (afieldAddr P s (ev x) f).bind fun v => K v h
  | .field xt x f => afieldK P xt (ev x) f fun v => K v h
  | .indexAddr t x ix => aindexAddrK P t (ev x) (ev ix) fun v => K v h
  | .index t x ix => aindexK P t (ev x) (ev ix) fun v => K v h
  | .lookup t x ix ok => alookupK P h t (ev x) (ev ix) ok fun v => K v h
  | .mapUpdate t m k x => amapUpdateK P h t (ev m) (ev k) (ev x) fun h' => K (.tup []) h'
  | .insert t m k x => amapUpdateK P h t (ev m) (ev k) (ev x) fun h' => K (.tup []) h'
  | .mapEntry t m k => amapEntryK P h t (ev m) (ev k) K
  | .entryStore _ m s x => (aentryStore h (ev m) (ev s) (ev x)).bind fun h' => K (.tup []) h'
  | .extract t ix =>
    match ev t with
    | .tup l => (l[ix]?).bind fun v => K v h
    | _ => none
  | .call c =>
    match c.callee with
    | .value f =>
      match ev f with
      | .fn fn cap => C fn (c.args.toList.map ev ++ cap)
      | _ => none
    | .builtin b =>
      match b, c.args.toList.map ev, c.argTypes.toList with
      | .append, [s, x], ts => aappendK P h ts s x K
      | .copy, [d, s], ts => acopyK P h ts d s K
      | .len, [x], [t] => (alen P h t x).bind fun v => K v h
      | .cap, [x], [t] => (acap P t x).bind fun v => K v h
      | .clear, [x], [t] => aclearK P h t x fun h' => K (.tup []) h'
      | .delete, [m, k], t :: _ => adeleteK P h t m k fun h' => K (.tup []) h'
      | .min, x :: r, _ => (afold2 (amin2 false) x r).bind fun v => K v h
      | .max, x :: r, _ => (afold2 (amin2 true) x r).bind fun v => K v h
      | _, _, _ => none
    | .invoke _ _ => none
  | _ => none


theorem aopV_eq {R : Type} {h : AHeap} {env : Env} {o : Oper} {K : AV → AHeap → Option R} {C : Fn → List AV → Option R} : aopV P h (aev env) o K C = aop P h env o K C := by
  unfold aop aopV
  cases o.op <;> rfl

/-- What is told ahead of slots. -/
def expect : List (Nat × AV) → Nat → Option AV
  | [], _ => none
  | (k, b) :: l, d => bif k.beq d then some b else expect l d

/-- A slot is written; what is told ahead is held against it. -/
def putT {R : Type} (pr : List (Nat × AV)) (t : Tr) (d : Option Tmp) (v : AV) (K : Tr → Option R) : Option R :=
  match d with
  | none => K t
  | some d =>
    match expect pr d with
    | none => K (t.set d v)
    | some u =>
      match u, v with
      | .bool b, .bool x => if x = b then K (t.set d (.bool b)) else none
      | .int k n, .int k' x => if k' = k ∧ x = n then K (t.set d (.int k n)) else none
      | _, v => K (t.set d v)

theorem putT_le {R : Type} {pr : List (Nat × AV)} {n : Nat} {t : Tr} {env : Env} (H : TR n t env) {d : Option Tmp} {v : AV} {K : Tr → Option R} {r : R} (h : putT pr t d v K = some r) :
    ∃ t', TR n t' (aput env d v) ∧ K t' = some r ∧ ∀ {R' : Type} (K' : Tr → Option R'), putT pr t d v K' = K' t' := by
  unfold putT at h
  cases d with
  | none => exact ⟨t, H, h, fun K' => rfl⟩
  | some d =>
    simp only at h
    split at h
    · rename_i he; exact ⟨_, H.set d v, h, fun K' => by simp only [putT, he]⟩
    · rename_i u he
      split at h
      · rename_i b x
        split at h
        · rename_i e; subst e; exact ⟨_, H.set d _, h, fun K' => by simp only [putT, he, if_true]⟩
        · simp at h
      · rename_i k m k' x
        split at h
        · rename_i e; obtain ⟨rfl, rfl⟩ := e; exact ⟨_, H.set d _, h, fun K' => by simp only [putT, he, true_and, if_true]⟩
        · simp at h
      · rename_i h1 h2
        refine ⟨_, H.set d v, h, fun K' => ?_⟩
        simp only [putT, he]

def aguardT {R : Type} (ops : List Oper) (o : Oper) (t : Tr) (T F : Tr → Option R) : Option R :=
  match o.guard with
  | none => T t
  | some (j, want) =>
    match (ops[j]?).bind (·.dst) with
    | none => F t
    | some d =>
      match t.get d with
      | some (.bool b) => if b = true then (if want then T (t.set d (.bool true)) else F (t.set d (.bool true))) else (if want then F (t.set d (.bool false)) else T (t.set d (.bool false)))
      | some (.tup []) => F t
      | _ => none

theorem aguardT_le {R : Type} {ops : List Oper} {o : Oper} {n : Nat} {t : Tr} {env : Env} (H : TR n t env) {T F : Tr → Option R} {r : R} (h : aguardT ops o t T F = some r) :
    ∃ t' env' b, TR n t' env' ∧ (if b = true then T t' else F t') = some r ∧ (∀ {R' : Type} (T' F' : Tr → Option R'), aguardT ops o t T' F' = if b = true then T' t' else F' t') ∧
      (∀ {R' : Type} (T' F' : Env → Option R'), aguard ops o env T' F' = if b = true then T' env' else F' env') := by
  unfold aguardT at h
  unfold aguardT aguard
  split at h
  · rename_i hg
    exact ⟨t, env, true, H, by simpa using h, fun T' F' => by simp [hg], fun T' F' => by simp [hg]⟩
  · rename_i j want hg
    simp only [hg]
    split at h
    · rename_i hd
      exact ⟨t, env, false, H, by simpa using h, fun T' F' => by simp [hd], fun T' F' => by simp [hd]⟩
    · rename_i d hd
      simp only [hd]
      split at h
      · rename_i b hb
        have hb' := H.get d
        rw [hb] at hb'
        have h1 := h
        simp only [hb, ← hb']
        cases b <;> cases want <;> simp at h1
        · exact ⟨_, _, true, H.set d (.bool false), by simpa using h1, fun T' F' => by simp, fun T' F' => by simp⟩
        · exact ⟨_, _, false, H.set d (.bool false), by simpa using h1, fun T' F' => by simp, fun T' F' => by simp⟩
        · exact ⟨_, _, false, H.set d (.bool true), by simpa using h1, fun T' F' => by simp, fun T' F' => by simp⟩
        · exact ⟨_, _, true, H.set d (.bool true), by simpa using h1, fun T' F' => by simp, fun T' F' => by simp⟩
      · rename_i hb
        have hb' := H.get d
        rw [hb] at hb'
        exact ⟨t, env, false, H, by simpa using h, fun T' F' => by simp [hb], fun T' F' => by simp [← hb']⟩
      · simp at h
end Go.Abs
