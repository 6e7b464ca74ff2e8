/- The operations as they go on are the plain ones. -/
import Derived.Test.YtmlmdbicbpicbaaAbs10
set_option autoImplicit false
set_option linter.unusedVariables false
set_option linter.unusedSimpArgs false
namespace Go.Abs
variable {P : Program} {h : AHeap} {R : Type}

theorem typedK_eq (d : Option TypeDesc) (x : Option AV) (K : AV → Option R) : typedK d x K = (typed d x).bind K := by
  unfold typedK typed
  split
  · split <;> rfl
  · split <;> rfl
  · rfl

theorem cellsAtK_eq (i o n : Nat) (K : List AV → Option R) : cellsAtK h i o n K = (cellsAt h i o n).bind K := by
  unfold cellsAtK cellsAt
  split
  · split <;> rfl
  · rfl

theorem putAtK_eq (i o : Nat) (xs : List AV) (K : AHeap → Option R) : putAtK h i o xs K = (putAt h i o xs).bind K := by
  unfold putAtK putAt
  split
  · split <;> rfl
  · rfl

theorem aloadK_eq (t : TypeId) (a : AV) (K : AV → Option R) : aloadK P h t a K = (aload P h t a).bind K := by
  unfold aloadK aload
  split
  · split
    · rw [cellsAtK_eq, Option.bind_map]; rfl
    · rw [typedK_eq]
    · rfl
  · rfl

theorem astoreK_eq (t : TypeId) (a v : AV) (K : AHeap → Option R) : astoreK P h t a v K = (astore P h t a v).bind K := by
  unfold astoreK astore
  split
  · split
    · split
      · rw [putAtK_eq]
      · rfl
    · rfl
  · rfl

theorem apartK_eq (t : TypeId) (cs : List AV) (off : Nat) (K : AV → Option R) : apartK P t cs off K = (apart P t cs off).bind K := by
  unfold apartK apart
  split
  · split <;> rfl
  · rw [typedK_eq]
  · rfl

theorem afieldK_eq (xt : TypeId) (x : AV) (f : Nat) (K : AV → Option R) : afieldK P xt x f K = (afield P xt x f).bind K := by
  unfold afieldK afield
  split
  · split
    · rw [apartK_eq]
    · rfl
  · rfl

theorem aindexAddrK_eq (t : TypeId) (x ix : AV) (K : AV → Option R) : aindexAddrK P t x ix K = (aindexAddr P t x ix).bind K := by
  unfold aindexAddrK aindexAddr
  split
  · split
    · split
      · split <;> rfl
      · rfl
    · split
      · split <;> rfl
      · rfl
    · rfl
  · rfl

theorem aindexK_eq (t : TypeId) (x ix : AV) (K : AV → Option R) : aindexK P t x ix K = (aindex P t x ix).bind K := by
  unfold aindexK aindex
  split
  · split
    · split
      · split
        · rw [apartK_eq]
        · rfl
      · rfl
    · split <;> rfl
    · rfl
  · rfl

theorem aboundsK_eq (len cap : Nat) (lo hi : Option Int) (K : Nat → Nat → Option R) : aboundsK len cap lo hi K = (abounds len cap lo hi).bind fun x => K x.1 x.2 := by
  unfold aboundsK abounds
  split
  · split
    · split
      · split <;> rfl
      · rfl
    · rfl
  · split
    · split <;> rfl
    · rfl

theorem asliceK_eq (t : TypeId) (x : AV) (lo hi mx : Option AV) (K : AV → Option R) : asliceK P t x lo hi mx K = (aslice P t x lo hi mx).bind K := by
  unfold asliceK aslice
  split
  · split
    · split
      · rw [aboundsK_eq, Option.bind_map]; rfl
      · rfl
    · split
      · split
        · rw [aboundsK_eq, Option.bind_map]; rfl
        · split
          · rw [aboundsK_eq, Option.bind_map]; rfl
          · rfl
        · rfl
      · rfl
    · split
      · rw [aboundsK_eq, Option.bind_map]; rfl
      · rfl
    · rfl
  · rfl

theorem amakeSliceK_eq (t : TypeId) (l c : AV) (same : Bool) (K : AV → AHeap → Option R) : amakeSliceK P h t l c same K = (amakeSlice P h t l c same).bind fun x => K x.1 x.2 := by
  unfold amakeSliceK amakeSlice
  split
  · split
    · split
      · split <;> rfl
      · rfl
    · rfl
  · rfl

theorem aSrcK_eq (e : TypeId) (sz by_ : Nat) (xt : Option TypeId) (x : AV) (K : Nat → List AV → Option R) : aSrcK P h e sz by_ xt x K = (aSrc P h e sz by_ xt x).bind fun x => K x.1 x.2 := by
  unfold aSrcK aSrc
  split
  · split
    · split
      · split <;> rfl
      · rfl
    · rfl
  · split <;> rfl
  · rw [cellsAtK_eq, Option.bind_map]; rfl
  · split <;> rfl
  · rfl

theorem agrowK_eq (i o len cap sz n : Nat) (new old : List AV) (K : AV → AHeap → Option R) : agrowK h i o len cap sz n new old K = (agrowK h i o len cap sz n new old fun v h => some (v, h)).bind fun x => K x.1 x.2 := by
  unfold agrowK
  split
  · split <;> rfl
  · rfl

theorem aappendK_eq (ts : List TypeId) (s x : AV) (K : AV → AHeap → Option R) : aappendK P h ts s x K = (aappend P h ts s x).bind fun x => K x.1 x.2 := by
  unfold aappendK aappend
  split
  · split
    · rw [aSrcK_eq]
      simp only [Option.bind_assoc]
      congr 1
      funext y
      split
      · split
        · split <;> rfl
        · split
          · split
            · split <;> rfl
            · split
              · split
                · rfl
                · rw [putAtK_eq, Option.bind_map]; rfl
              · rw [cellsAtK_eq, Option.bind_map]; rfl
          · split
            · rw [cellsAtK_eq, Option.bind_assoc]
              congr 1
              funext old
              exact agrowK_eq _ _ _ _ _ _ _ _ _
            · split
              · split
                · rfl
                · rw [putAtK_eq, Option.bind_map]; rfl
              · rfl
      · rfl
    · rfl
  · rfl

theorem acopyToK_eq (base : Option (Nat × Nat)) (dl sl : Nat) (cs : List AV) (K : AV → AHeap → Option R) : acopyToK h base dl sl cs K = (acopyTo h base dl sl cs).bind fun x => K x.1 x.2 := by
  unfold acopyToK acopyTo
  split
  · rfl
  · split
    · split
      · rw [putAtK_eq, Option.bind_map]; rfl
      · rfl
    · rfl

theorem acopyK_eq (ts : List TypeId) (d s : AV) (K : AV → AHeap → Option R) : acopyK P h ts d s K = (acopy P h ts d s).bind fun x => K x.1 x.2 := by
  unfold acopyK acopy
  split
  · split
    · split
      · split
        · rw [acopyToK_eq]
        · rfl
      · split
        · rw [acopyToK_eq]
        · rw [cellsAtK_eq, Option.bind_assoc]; congr 1; funext cs; rw [acopyToK_eq]
      · split
        · rw [acopyToK_eq]
        · rfl
      · rfl
    · rfl
  · rfl

theorem aclearK_eq (t : TypeId) (x : AV) (K : AHeap → Option R) : aclearK P h t x K = (aclear P h t x).bind K := by
  unfold aclearK aclear
  split
  · rfl
  · split
    · rfl
    · split
      · split
        · split
          · rw [putAtK_eq]
          · rfl
        · rfl
      · rfl
  · rfl

theorem aint2K_eq (op : BinOp) (k : IntKind) (a b : Int) (K : AV → Option R) : aint2K op k a b K = (aint2 op k a b).bind K := by
  unfold aint2K
  split
  · simp only [aint2]; split <;> rfl
  · simp only [aint2]; split <;> rfl
  · rfl

theorem abinK_eq (op : BinOp) (xt : TypeId) (x y : AV) (K : AV → Option R) : abinK P op xt x y K = (abin P op xt x y).bind K := by
  unfold abinK
  split
  · split
    · simp only [abin]; split <;> rfl
    · simp only [abin]; split <;> rfl
    · rename_i op' h1 h2
      split
      · rename_i hk
        rw [aint2K_eq]
        unfold abin
        cases op <;> first | exact (h1 rfl).elim | exact (h2 rfl).elim | (simp only [if_pos hk])
      · rename_i hk
        unfold abin
        cases op <;> first | exact (h1 rfl).elim | exact (h2 rfl).elim | (simp only [if_neg hk]; rfl)
  · split
    · simp only [abin]; split <;> rfl
    · rfl
  · rfl

theorem aconvK_eq (s d : TypeId) (x : AV) (K : AV → AHeap → Option R) : aconvK P h s d x K = (aconv P h s d x).bind fun x => K x.1 x.2 := by
  unfold aconvK aconv
  split
  · rfl
  · rfl
  · split
    · split <;> rfl
    · rfl
  · split
    · split <;> rfl
    · rfl
  · split
    · split <;> rfl
    · rw [cellsAtK_eq, Option.bind_assoc]
      congr 1; funext cs
      split <;> rfl
    · rfl
  · rfl

theorem afindK_eq (kt : TypeId) (k : AV) (K : Option (Nat × AV) → Option R) : ∀ (es : List (AV × AV × Nat)) (i : Nat), afindK P kt k K es i = (afind P kt k es i).bind K
  | [], i => rfl
  | e :: r, i => by
    unfold afindK afind
    rw [Option.bind_assoc]
    congr 1; funext b
    split
    · rfl
    · exact afindK_eq kt k K r (i + 1)

theorem alookupK_eq (t : TypeId) (m k : AV) (ok : Bool) (K : AV → Option R) : alookupK P h t m k ok K = (alookup P h t m k ok).bind K := by
  unfold alookupK alookup
  split
  · rfl
  · rw [Option.bind_assoc]
    congr 1; funext es
    split
    · rw [afindK_eq, Option.bind_assoc]
      congr 1; funext y
      cases y with
      | none => simp only [Option.bind_map]; rfl
      | some y => rfl
    · rfl

theorem aenterK_eq (t : TypeId) (r : Nat) (k : AV) (old : AV → AV) (new : Option AV) (K : AV → Nat → AHeap → Option R) : aenterK P h t r k old new K = (aenter P h t r k old new).bind fun x => K x.1 x.2.1 x.2.2 := by
  unfold aenterK aenter
  split
  · split
    · rw [afindK_eq, Option.bind_assoc]
      congr 1; funext y
      cases y with
      | none => simp only [Option.bind_map]; rfl
      | some y =>
        simp only
        split
        · split <;> rfl
        · rfl
    · rfl
  · rfl

theorem amapUpdateK_eq (t : TypeId) (m k v : AV) (K : AHeap → Option R) : amapUpdateK P h t m k v K = (amapUpdate P h t m k v).bind K := by
  unfold amapUpdateK amapUpdate
  split
  · rw [aenterK_eq, Option.bind_map]; rfl
  · rfl

theorem amapEntryK_eq (t : TypeId) (m k : AV) (K : AV → AHeap → Option R) : amapEntryK P h t m k K = (amapEntry P h t m k).bind fun x => K x.1 x.2 := by
  unfold amapEntryK amapEntry
  split
  · rw [aenterK_eq, Option.bind_map]; rfl
  · rfl

theorem adeleteK_eq (t : TypeId) (m k : AV) (K : AHeap → Option R) : adeleteK P h t m k K = (adelete P h t m k).bind K := by
  unfold adeleteK adelete
  split
  · rfl
  · split
    · split
      · rfl
      · split
        · rw [afindK_eq, Option.bind_map]
          congr 1; funext y
          cases y <;> rfl
        · rfl
      · rfl
    · rfl

theorem aop_eq (env : Env) (o : Oper) (K : AV → AHeap → Option R) (C : Fn → List AV → Option R) : aop P h env o K C = aop0 P h env o K C := by
  unfold aop aop0
  simp only [aloadK_eq, astoreK_eq, abinK_eq, aconvK_eq, amakeSliceK_eq, asliceK_eq, afieldK_eq, aindexAddrK_eq, aindexK_eq, alookupK_eq, amapUpdateK_eq, amapEntryK_eq, aappendK_eq, acopyK_eq, aclearK_eq, adeleteK_eq]

end Go.Abs
