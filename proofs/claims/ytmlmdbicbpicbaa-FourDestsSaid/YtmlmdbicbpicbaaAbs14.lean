/- What an operation looks at: slots, memory. -/
import Derived.Test.YtmlmdbicbpicbaaAbs13
set_option autoImplicit false
set_option linter.unusedVariables false
set_option linter.unusedSimpArgs false
namespace Go.Abs
variable {P : Program} {W0 : World} {σ : Sig} {h : AHeap} {w : World}

mutual
theorem AV.beq_eq : ∀ (a b : AV), AV.beq a b = true → a = b
  | .any, b, h => by cases b <;> simp [AV.beq] at h; rfl
  | .bool x, b, h => by cases b <;> simp [AV.beq] at h; rw [h]
  | .int k n, b, h => by cases b <;> simp [AV.beq] at h; rw [h.1, h.2]
  | .str s, b, h => by cases b <;> simp [AV.beq] at h; rw [h]
  | .ptr a, b, h => by cases b <;> simp [AV.beq] at h; rw [h]
  | .sl a l c e, b, h => by cases b <;> simp [AV.beq] at h; obtain ⟨⟨⟨rfl, rfl⟩, rfl⟩, rfl⟩ := h; rfl
  | .map a, b, h => by cases b <;> simp [AV.beq] at h; rw [h]
  | .fn f l, b, h => by cases b <;> simp [AV.beq] at h; rw [h.1, AV.beqs_eq _ _ h.2]
  | .nilFn, b, h => by cases b <;> simp [AV.beq] at h; rfl
  | .agg l, b, h => by cases b <;> simp [AV.beq] at h; rw [AV.beqs_eq _ _ h]
  | .tup l, b, h => by cases b <;> simp [AV.beq] at h; rw [AV.beqs_eq _ _ h]
theorem AV.beqs_eq : ∀ (l m : List AV), AV.beqs l m = true → l = m
  | [], m, h => by cases m <;> simp [AV.beqs] at h; rfl
  | a :: l, m, h => by
    cases m with
    | nil => simp [AV.beqs] at h
    | cons b m => simp [AV.beqs] at h; rw [AV.beq_eq _ _ h.1, AV.beqs_eq _ _ h.2]
end

theorem asame_some {R : Type} {x : Option AV} {v : AV} {K : Option R} {r : R} (h : asame x v K = some r) : x = some v ∧ K = some r := by
  unfold asame at h
  cases x with
  | none => simp at h
  | some u =>
    simp only [Option.bind_some] at h
    split at h
    · rename_i he; rw [AV.beq_eq _ _ he]; exact ⟨rfl, h⟩
    · simp at h

theorem aop_congr {o : Oper} {env env' : Env} (hx : ∀ x ∈ o.op.operands, aev env x = aev env' x) {RT : Type} (K : AV → AHeap → Option RT) (C : Fn → List AV → Option RT) : aop P h env o K C = aop P h env' o K C := by
  have hmap : ∀ l : List Operand, (∀ x ∈ l, x ∈ o.op.operands) → l.map (aev env) = l.map (aev env') := fun l hl => List.map_congr_left fun x h => hx x (hl x h)
  have hopt : ∀ l : Option Operand, (∀ x, l = some x → x ∈ o.op.operands) → l.map (aev env) = l.map (aev env') := fun l hl => by
    cases l with
    | none => rfl
    | some x => simp [hx x (hl x rfl)]
  rw [aop_eq, aop_eq]
  unfold aop0
  cases ho : o.op
  case build t ps =>
    have : (ps.toList.map fun p => (p.1, aev env p.2)) = (ps.toList.map fun p => (p.1, aev env' p.2)) :=
      List.map_congr_left fun p hp => by rw [hx p.2 (by rw [ho]; simp only [Op.operands, List.mem_toArray, List.mem_map]; exact ⟨p, hp, rfl⟩)]
    simp only [this]
  case buildSlice t n ps =>
    have : (ps.toList.map fun p => (p.1, aev env p.2)) = (ps.toList.map fun p => (p.1, aev env' p.2)) :=
      List.map_congr_left fun p hp => by rw [hx p.2 (by rw [ho]; simp only [Op.operands, List.mem_toArray, List.mem_map]; exact ⟨p, hp, rfl⟩)]
    simp only [this]
  case makeFunc fn first cap =>
    simp only [hmap cap.toList (by rw [ho]; simp [Op.operands]; intro x h; exact .inr h)]
  case slice t x lo hi mx =>
    simp only [hx x (by rw [ho]; simp [Op.operands]), hopt lo (by rw [ho]; intro x h; simp [Op.operands, h]), hopt hi (by rw [ho]; intro x h; simp [Op.operands, h]), hopt mx (by rw [ho]; intro x h; simp [Op.operands, h])]
  case call c =>
    have e1 : c.args.toList.map (aev env) = c.args.toList.map (aev env') := hmap _ (by rw [ho]; intro x hx; simp [Op.operands, Call.operands]; right; simpa using hx)
    simp only [e1]
    cases hc : c.callee with
    | value f =>
      simp only
      rw [hx f (by rw [ho]; simp [Op.operands, Call.operands, hc])]
    | builtin b => rfl
    | invoke r n => rfl
  all_goals first | (simp only [ho, Op.operands] at hx; simp at hx; simp only [hx]; done) | rfl

theorem int_conv {s d : TypeId} {a k : IntKind} (hs : P.underlying s = some (.int a)) (hd : P.underlying d = some (.int k)) (h : AHeap) (v : AV) : aconv P h s d v = (match v with | .int _ n => some (.int k (k.wrap n), h) | _ => none) := by
  unfold aconv
  rw [hs, hd]
  cases v <;> rfl

theorem heavy_conv {s d : TypeId} {x : Operand} (h : heavy P (.convert s d x) = false) : (∃ a k, P.underlying s = some (.int a) ∧ P.underlying d = some (.int k)) ∨ ∃ e, P.underlying s = some (.slice e) ∧ P.underlying d = some .string := by
  simp only [heavy] at h
  split at h
  · rename_i a k h1 h2; exact .inl ⟨a, k, h1, h2⟩
  · rename_i e h1 h2; exact .inr ⟨e, h1, h2⟩
  · simp at h

/-- The text of a row of bytes. -/
def strOf (P : Program) (h : AHeap) (e : TypeId) (v : AV) : Option AV := match v with
  | .sl base n _ _ =>
    match P.underlying e, base with
    | some (.int .u8), none => if n = 0 then some (.str []) else none
    | some (.int .u8), some (i, o) => (cellsAt h i o n).bind fun cs => if cs.all isByte = true then some (.str (cs.map byteD)) else none
    | _, _ => none
  | _ => none

theorem str_conv {s d e : TypeId} (hs : P.underlying s = some (.slice e)) (hd : P.underlying d = some .string) (h : AHeap) (v : AV) : aconv P h s d v = (strOf P h e v).map fun x => (x, h) := by
  unfold aconv strOf
  rw [hs, hd]
  cases v <;> try rfl
  rename_i base n c ex
  simp only
  generalize P.underlying e = E
  cases E with
  | none => rfl
  | some td =>
    cases td <;> try rfl
    rename_i k
    cases k <;> try rfl
    cases base with
    | none => simp only; split <;> rfl
    | some q =>
      obtain ⟨i, o⟩ := q
      simp only
      cases cellsAt h i o n with
      | none => rfl
      | some cs => simp only [Option.bind_some]; split <;> rfl

theorem still_conv {s d : TypeId} {x : Operand} (h : still P (.convert s d x) = true) : ∃ a k, P.underlying s = some (.int a) ∧ P.underlying d = some (.int k) := by
  simp only [still] at h
  split at h
  · rename_i a k h1 h2; exact ⟨a, k, h1, h2⟩
  · simp at h

theorem light_heap {o : Oper} {env : Env} (hl : heavy P o.op = false) {RT : Type} (K : AV → AHeap → Option RT) (C : Fn → List AV → Option RT) : aop P h env o K C = aop P h env o (fun v _ => K v h) C := by
  rw [aop_eq, aop_eq]
  unfold aop0
  cases ho : o.op <;> first | rfl | (simp [ho, heavy] at hl; done) | skip
  case convert s d x =>
    rw [ho] at hl
    rcases heavy_conv hl with ⟨a, k, h1, h2⟩ | ⟨e, h1, h2⟩
    · simp only [int_conv h1 h2]
      cases aev env x <;> rfl
    · simp only [str_conv h1 h2]
      cases strOf P h e (aev env x) <;> rfl
  case call c =>
    simp only
    cases hc : c.callee with
    | value f => obtain ⟨cal, args, ts⟩ := c; simp at hc; subst hc; simp [ho, heavy] at hl
    | invoke r n => rfl
    | builtin b =>
      obtain ⟨cal, args, ts⟩ := c; simp at hc; subst hc
      simp only
      generalize List.map (aev env) args.toList = l
      generalize ts.toList = tl
      cases b <;> simp [ho, heavy] at hl <;> (rcases l with _ | ⟨x, _ | ⟨y, _ | ⟨z, l⟩⟩⟩ <;> rcases tl with _ | ⟨t, _ | ⟨t2, tl⟩⟩ <;> rfl)

theorem still_heap {o : Oper} {env : Env} (hs : still P o.op = true) (h2 : AHeap) {RT : Type} (K : AV → AHeap → Option RT) (C : Fn → List AV → Option RT) : aop P h env o (fun v _ => K v h) C = aop P h2 env o (fun v _ => K v h) C := by
  rw [aop_eq, aop_eq]
  unfold aop0
  cases ho : o.op <;> first | rfl | (simp [ho, still] at hs; done) | skip
  case convert s d x =>
    rw [ho] at hs
    obtain ⟨a, k, h1, h2⟩ := still_conv hs
    simp only [int_conv h1 h2]
    cases aev env x <;> rfl
  case call c =>
    simp only
    cases hc : c.callee with
    | value f => rfl
    | invoke r n => rfl
    | builtin b =>
      obtain ⟨cal, args, ts⟩ := c; simp at hc; subst hc
      simp only
      generalize List.map (aev env) args.toList = l
      generalize ts.toList = tl
      cases b <;> simp [ho, still] at hs <;> (rcases l with _ | ⟨x, _ | ⟨y, _ | ⟨z, l⟩⟩⟩ <;> rcases tl with _ | ⟨t, _ | ⟨t2, tl⟩⟩ <;> rfl)

theorem heavy_still {o : Op} (hs : still P o = true) : heavy P o = false := by
  cases o
  case convert s d x =>
    obtain ⟨a, k, h1, h2⟩ := still_conv hs
    simp [heavy, h1, h2]
  all_goals (simp [still] at hs; try simp [heavy])
  rename_i c
  obtain ⟨cal, args, ts⟩ := c
  cases cal with
  | value f => simp [still] at hs
  | invoke r n => simp [still] at hs
  | builtin b => cases b <;> simp [still] at hs <;> simp [heavy]

/-! ### A block more -/

theorem cellAt_mono {i o : Nat} {v : AV} (hc : cellAt h i o = some v) (b : ABlk) : cellAt (h ++ [b]) i o = some v := by
  unfold cellAt at hc ⊢
  cases hi : h[i]? with
  | none => simp [hi] at hc
  | some x => rw [List.getElem?_append_left (List.getElem?_eq_some_iff.1 hi).1, hi]; rw [hi] at hc; exact hc

theorem cellsAt_mono {i o n : Nat} {v : List AV} (hc : cellsAt h i o n = some v) (b : ABlk) : cellsAt (h ++ [b]) i o n = some v := by
  unfold cellsAt at hc ⊢
  cases hi : h[i]? with
  | none => simp [hi] at hc
  | some x => rw [List.getElem?_append_left (List.getElem?_eq_some_iff.1 hi).1, hi]; rw [hi] at hc; exact hc

theorem entriesAt_mono {i : Nat} {v : List (AV × AV × Nat) × Nat} (hc : entriesAt h i = some v) (b : ABlk) : entriesAt (h ++ [b]) i = some v := by
  unfold entriesAt at hc ⊢
  cases hi : h[i]? with
  | none => simp [hi] at hc
  | some x => rw [List.getElem?_append_left (List.getElem?_eq_some_iff.1 hi).1, hi]; rw [hi] at hc; exact hc

theorem aload_mono {t : TypeId} {a v : AV} (ha : aload P h t a = some v) (b : ABlk) : aload P (h ++ [b]) t a = some v := by
  unfold aload at ha ⊢
  split at ha
  · split at ha
    · simp only [Option.map_eq_some_iff] at ha ⊢
      obtain ⟨cs, h1, h2⟩ := ha
      exact ⟨cs, cellsAt_mono h1 b, h2⟩
    · have e := cellAt_mono (typed_some ha) b
      rw [e]; rw [typed_some ha] at ha; exact ha
    · simp at ha
  · simp at ha

theorem mapList_mono {m : AV} {v : List (AV × AV × Nat)} (ha : mapList h m = some v) (b : ABlk) : mapList (h ++ [b]) m = some v := by
  unfold mapList at ha ⊢
  split at ha
  · exact ha
  · simp only [Option.map_eq_some_iff] at ha ⊢
    obtain ⟨cs, h1, h2⟩ := ha
    exact ⟨cs, entriesAt_mono h1 b, h2⟩
  · simp at ha

theorem alookup_mono {t : TypeId} {m k v : AV} {ok : Bool} (ha : alookup P h t m k ok = some v) (b : ABlk) : alookup P (h ++ [b]) t m k ok = some v := by
  unfold alookup at ha ⊢
  split at ha
  · simp at ha
  · simp only [Option.bind_eq_some_iff] at ha ⊢
    obtain ⟨es, h1, h2⟩ := ha
    exact ⟨es, mapList_mono h1 b, h2⟩

theorem alen_mono {t : TypeId} {x v : AV} (ha : alen P h t x = some v) (b : ABlk) : alen P (h ++ [b]) t x = some v := by
  unfold alen at ha ⊢
  split at ha
  · exact ha
  · exact ha
  · exact ha
  · exact ha
  · split at ha
    · rename_i hu r es c hi
      rw [List.getElem?_append_left (List.getElem?_eq_some_iff.1 hi).1, hi]; exact ha
    · simp at ha
  · simp at ha

/-- An operation that only looks at memory. -/
def looksAt (P : Program) : Op → Bool
  | .load .. | .lookup .. => true
  | .convert s d _ => (match P.underlying s, P.underlying d with | some (.slice _), some .string => true | _, _ => false)
  | .call { callee := .builtin .len, .. } => true
  | _ => false

theorem looks_of {o : Op} (h1 : heavy P o = false) (h2 : still P o = false) : looksAt P o = true := by
  cases o
  case convert s d x =>
    rcases heavy_conv h1 with ⟨a, k, g1, g2⟩ | ⟨e, g1, g2⟩
    · simp [still, g1, g2] at h2
    · simp [looksAt, g1, g2]
  all_goals (simp [heavy, still] at h1 h2; try rfl)
  case call c =>
    obtain ⟨cal, args, ts⟩ := c
    cases cal with
    | value f => simp [heavy] at h1
    | invoke r n => simp [heavy] at h1
    | builtin b => cases b <;> simp [heavy] at h1 <;> simp [still] at h2; rfl

theorem alook_mono {o : Oper} {env : Env} {v : AV} (hl : looksAt P o.op = true) (ha : alook P o env h = some v) (b : ABlk) : alook P o env (h ++ [b]) = some v := by
  unfold alook at ha ⊢
  rw [aop_eq] at ha ⊢
  unfold aop0 at ha ⊢
  cases ho : o.op <;> simp only [ho, looksAt] at hl ha ⊢ <;> first | (simp at hl; done) | skip
  case load t x =>
    simp only [Option.bind_eq_some_iff] at ha ⊢
    obtain ⟨y, h1, h2⟩ := ha
    exact ⟨y, aload_mono h1 b, h2⟩
  case convert s d x =>
    split at hl
    · rename_i e h1 h2
      rw [str_conv h1 h2] at ha ⊢
      simp only [Option.bind_eq_some_iff, Option.map_eq_some_iff] at ha ⊢
      obtain ⟨y, ⟨z, h3, h4⟩, h5⟩ := ha
      subst h4
      refine ⟨(z, h ++ [b]), ⟨z, ?_, rfl⟩, h5⟩
      unfold strOf at h3 ⊢
      split at h3
      · split at h3
        · exact h3
        · simp only [Option.bind_eq_some_iff] at h3 ⊢
          obtain ⟨cs, g1, g2⟩ := h3
          exact ⟨cs, cellsAt_mono g1 b, g2⟩
        · simp at h3
      · simp at h3
    · simp at hl
  case lookup t m k ok =>
    simp only [Option.bind_eq_some_iff] at ha ⊢
    obtain ⟨y, h1, h2⟩ := ha
    exact ⟨y, alookup_mono h1 b, h2⟩
  case call c =>
    obtain ⟨cal, args, ts⟩ := c
    cases cal with
    | value f => simp at hl
    | invoke r n => simp at hl
    | builtin b' =>
      cases b' <;> simp at hl
      simp only at ha ⊢
      generalize List.map (aev env) args.toList = l at *
      generalize ts.toList = tl at *
      rcases l with _ | ⟨x, _ | ⟨y, l⟩⟩ <;> rcases tl with _ | ⟨t, _ | ⟨t2, tl⟩⟩ <;> simp only [Option.bind_eq_some_iff] at ha ⊢ <;> first | (simp at ha; done) | skip
      obtain ⟨y, h1, h2⟩ := ha
      exact ⟨y, alen_mono h1 b, h2⟩

theorem goes_heap {o : Oper} {env : Env} {v : AV} {h' : AHeap} (hl : heavy P o.op = false) (hg : Goes P h env o v h') : h' = h := by
  have h1 := hg (R := AHeap) (fun _ h => some h) (fun _ _ => none)
  rw [light_heap hl] at h1
  have h2 := hg (R := AHeap) (fun _ _ => some h) (fun _ _ => none)
  rw [h1] at h2
  simpa using h2

theorem goes_look {o : Oper} {env : Env} {v : AV} {h' : AHeap} (hg : Goes P h env o v h') : alook P o env h = some v := hg _ _

theorem look_goes {o : Oper} {env : Env} {v : AV} (hl : heavy P o.op = false) (ha : alook P o env h = some v) : Goes P h env o v h := by
  rcases aop_cps ha with ⟨v1, h1, hk, hg⟩ | ⟨_, _, hc, _⟩
  · simp only [Option.some.injEq] at hk; subst hk
    rw [goes_heap hl hg] at hg; exact hg
  · simp at hc

theorem still_look {o : Oper} {env : Env} (hs : still P o.op = true) (h2 : AHeap) : alook P o env h = alook P o env h2 := still_heap hs h2 (fun v _ => some v) _

theorem adds_goes {o : Oper} {env : Env} {v : AV} {h' : AHeap} (hs : adds o.op = true) (hg : Goes P h env o v h') : ∃ b, h' = h ++ [b] := by
  have h1 := hg (R := AV × AHeap) (fun v h => some (v, h)) (fun _ _ => none)
  have hbox : ∀ {t : TypeId} {x v : AV} {h' : AHeap}, abox P h t x = some (v, h') → ∃ b, h' = h ++ [b] := fun {t x v h'} hb => by
    unfold abox at hb
    split at hb
    · simp at hb; exact ⟨_, hb.2.symm⟩
    · simp at hb
  rw [aop_eq] at h1
  unfold aop0 at h1
  cases ho : o.op <;> simp only [ho, adds] at hs h1 <;> first | (simp at hs; done) | skip
  case alloc t =>
    obtain ⟨v1, h2, hk, hh⟩ := bind_pair (K := fun v h => some (v, h)) h1
    simp at hh; obtain ⟨rfl, rfl⟩ := hh
    unfold aalloc at hk
    split at hk
    · exact hbox hk
    · simp at hk
  case box t x =>
    obtain ⟨v1, h2, hk, hh⟩ := bind_pair (K := fun v h => some (v, h)) h1
    simp at hh; obtain ⟨rfl, rfl⟩ := hh
    exact hbox hk
  case buildSlice t n ps =>
    obtain ⟨v1, h2, hk, hh⟩ := bind_pair (K := fun v h => some (v, h)) h1
    simp at hh; obtain ⟨rfl, rfl⟩ := hh
    unfold abuildSlice at hk
    split at hk
    · simp at hk
    · split at hk
      · split at hk
        · split at hk
          · simp only [Option.map_eq_some_iff, Prod.mk.injEq] at hk
            obtain ⟨cs, _, _, rfl⟩ := hk
            exact ⟨_, rfl⟩
          · simp at hk
        · simp at hk
      · simp at hk
  case makeMap t r0 =>
    cases r0 with
    | none => simp at h1; exact ⟨_, h1.2.symm⟩
    | some x => simp at h1
  case makeSlice t l c =>
    obtain ⟨v1, h2, hk, hh⟩ := bind_pair (K := fun v h => some (v, h)) h1
    simp at hh; obtain ⟨rfl, rfl⟩ := hh
    unfold amakeSlice at hk
    split at hk
    · split at hk
      · split at hk
        · split at hk
          · simp at hk; exact ⟨_, hk.2.symm⟩
          · simp at hk
        · simp at hk
      · simp at hk
    · simp at hk

end Go.Abs
