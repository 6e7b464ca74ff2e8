/- Operation by operation: maps. -/
import Derived.Test.YtmlmdbicbpicbaaAbs9
set_option autoImplicit false
set_option linter.unusedVariables false
set_option linter.unusedSimpArgs false
namespace Go.Abs
variable {P : Program} {W0 : World} {σ : Sig} {h : AHeap} {w : World}

theorem sim_keyOk {empty : Bool} : ∀ (d : Nat) (t : TypeId) (v : AV) (v' : Value) (w : World), VR σ v v' → akeyOk P d t v = true → (Instr.checkKey empty d t v').run P w = .ok () w
  | 0, _, _, _, _, _, ha => by simp [akeyOk] at ha
  | d + 1, t, v, v', w, hv, ha => by
    unfold akeyOk at ha
    split at ha
    · rename_i hu; cases hv; simp [Instr.checkKey, run_underlying hu]
    · rename_i hu; cases hv; simp [Instr.checkKey, run_underlying hu]
    · rename_i hu; cases hv; simp [Instr.checkKey, run_underlying hu]
    · rename_i len e cs hu
      split at ha
      · rename_i sz hsz
        cases hv with
        | agg _ m hm =>
        have hall := List.all_eq_true.1 ha
        simp only [Instr.checkKey, Sem.run_bind, run_underlying hu, Result.andThen_ok]
        simp only [Std.Legacy.Range.forIn_eq_forIn_range', Std.Legacy.Range.size, Nat.sub_zero, Nat.add_one_sub_one, Nat.div_one, List.range_eq_range'] at hall ⊢
        have key : ∀ (is : List Nat), (∀ i ∈ is, (match apart P e cs (i * sz) with | some x => akeyOk P d e x | none => false) = true) →
            (forIn is PUnit.unit fun i _ => (do Instr.checkKey empty d e (← part e m.toArray (i * (← sizeOf e))); pure (ForInStep.yield PUnit.unit) : Sem (ForInStep PUnit))).run P w = .ok PUnit.unit w := by
          intro is
          induction is with
          | nil => intro _; simp
          | cons i is ih =>
            intro hh
            have h0 := hh i (by simp)
            split at h0
            · rename_i x hx
              obtain ⟨x', e1, e2⟩ := sim_part hm hx w
              have e3 := sim_keyOk (empty := empty) d e x x' w e2 h0
              simp only [List.forIn_cons, Sem.run_bind, run_sizeA hsz, Result.andThen_ok, e1, e3, Sem.run_pure]
              exact ih fun j hj => hh j (by simp [hj])
            · cases h0
        rw [key _ hall]; rfl
      · simp at ha
    · rename_i fs cs hu
      cases hv with
      | agg _ m hm =>
      have hall := List.all_eq_true.1 ha
      simp only [Instr.checkKey, Sem.run_bind, run_underlying hu, Result.andThen_ok]
      rw [← Array.forIn_toList]
      have key : ∀ (l : List Field), (∀ f ∈ l, (match apart P f.type cs f.offset with | some x => akeyOk P d f.type x | none => false) = true) →
          (forIn l PUnit.unit fun f _ => (if f.name ≠ "_" then (do Instr.checkKey empty d f.type (← part f.type m.toArray f.offset); pure (ForInStep.yield PUnit.unit)) else pure (ForInStep.yield PUnit.unit) : Sem (ForInStep PUnit))).run P w = .ok PUnit.unit w := by
        intro l
        induction l with
        | nil => intro _; simp
        | cons f l ih =>
          intro hh
          have h0 := hh f (by simp)
          split at h0
          · rename_i x hx
            obtain ⟨x', e1, e2⟩ := sim_part hm hx w
            have e3 := sim_keyOk (empty := empty) d f.type x x' w e2 h0
            simp only [List.forIn_cons, Sem.run_bind]
            split
            · simp only [Sem.run_bind, e1, e3, Result.andThen_ok, Sem.run_pure]
              exact ih fun j hj => hh j (by simp [hj])
            · simp only [Sem.run_pure, Result.andThen_ok]
              exact ih fun j hj => hh j (by simp [hj])
          · cases h0
      rw [key _ hall]; rfl
    · simp at ha

def FindR (σ : Sig) : Option (Nat × AV) → Option (Nat × Value) → Prop
  | none, none => True
  | some x, some y => x.1 = y.1 ∧ VR σ x.2 y.2
  | _, _ => False

theorem sim_findAsking {kt : TypeId} {k : AV} {k' : Value} (hk : VR σ k k') (w : World) : ∀ {es : List (AV × AV × Nat)} {es' : List MapEntry} {i : Nat} {r : Option (Nat × AV)}, ERs σ es es' → afind P kt k es i = some r →
    ∃ r', (Instr.findAsking kt k' es' i).run P w = .ok r' w ∧ FindR σ r r'
  | _, _, _, _, .nil, ha => by simp [afind] at ha; subst ha; exact ⟨none, by simp [Instr.findAsking], trivial⟩
  | _, _, i, r, .cons a v b e l m ha hv hb t, hr => by
    unfold afind at hr
    simp only [Option.bind_eq_some_iff] at hr
    obtain ⟨q, hq, hr⟩ := hr
    have he := sim_eqIn (σ := σ) (P := P) 10000 kt k a k' e.key q w hk ha hq
    have he' : (Op.equal kt k' e.key).run P w = .ok q w := he
    cases q with
    | true =>
      simp at hr; subst hr
      exact ⟨some (i, e.val), by simp [Instr.findAsking, he'], rfl, hv⟩
    | false =>
      simp at hr
      obtain ⟨r', h1, h2⟩ := sim_findAsking hk w t hr
      exact ⟨r', by simp [Instr.findAsking, he', h1], h2⟩

theorem sim_findNow (w : World) {kt : TypeId} {d : TypeDesc} {k : AV} {k' : Value} (hd : P.underlying kt = some d) (hk : VR σ k k') : ∀ {es : List (AV × AV × Nat)} {es' : List MapEntry} {i : Nat} {r : Option (Nat × AV)} {r' : Option (Nat × Value)}, ERs σ es es' →
    afind P kt k es i = some r → Instr.findNow d k' es' i = some r' → FindR σ r r'
  | _, _, _, _, _, .nil, ha, hb => by simp [afind] at ha; simp [Instr.findNow] at hb; subst ha; subst hb; trivial
  | _, _, i, r, r', .cons a v b e l m ha hv hb t, hr, hr' => by
    unfold afind at hr
    simp only [Option.bind_eq_some_iff] at hr
    obtain ⟨q, hq, hr⟩ := hr
    unfold Instr.findNow at hr'
    have same : ∀ q', Instr.sameNow d k' e.key = some q' → q' = q := by
      intro q' h
      have he := sim_eqIn (σ := σ) (P := P) 10000 kt k a k' e.key q w hk ha hq
      unfold Instr.sameNow at h
      split at h
      · rename_i hek
        split at h
        · rename_i hkk
          simp only [Option.some.injEq] at h; subst h
          subst hkk
          rw [hek, run_equalIn_int (P := P) w 9999 kt _ _ _ _ hd] at he
          simp only [Result.ok.injEq, and_true] at he
          exact he
        · simp at h
      · rename_i hek
        simp only [Option.some.injEq] at h; subst h
        rw [hek, run_equalIn_string (P := P) w 9999 kt _ _ hd] at he
        simp only [Result.ok.injEq, and_true] at he
        rw [beq_toListBytes]; exact he
      · rename_i hek
        simp only [Option.some.injEq] at h; subst h
        rw [hek, run_equalIn_bool' (P := P) w 9999 kt _ _ hd] at he
        simp only [Result.ok.injEq, and_true] at he
        exact he
      · simp at h
    split at hr'
    · rename_i h1
      obtain rfl := same _ h1
      simp at hr hr'; subst hr; subst hr'
      exact ⟨rfl, hv⟩
    · rename_i h1
      obtain rfl := same _ h1
      simp at hr
      exact sim_findNow w hd hk t hr hr'
    · simp at hr'

theorem sim_findKey {kt : TypeId} {k : AV} {k' : Value} {es : List (AV × AV × Nat)} {es' : List MapEntry} {r : Option (Nat × AV)} {d : TypeDesc} (hd : P.underlying kt = some d) (hk : VR σ k k') (hes : ERs σ es es') (ha : afind P kt k es 0 = some r) (w : World) :
    ∃ r', (Instr.findKey kt k' es').run P w = .ok r' w ∧ FindR σ r r' := by
  cases hn : Instr.findNow d k' es' 0 with
  | some r' => exact ⟨r', by simp [Instr.findKey, run_underlying hd, hn], sim_findNow w hd hk hes ha hn⟩
  | none =>
    obtain ⟨r', h1, h2⟩ := sim_findAsking hk w hes ha
    exact ⟨r', by simp only [Instr.findKey, Sem.run_bind, run_underlying hd, Result.andThen_ok, hn, h1], h2⟩

theorem keyOk_under {d : Nat} {t : TypeId} {v : AV} (ha : akeyOk P d t v = true) : ∃ td, P.underlying t = some td := by
  cases d with
  | zero => simp [akeyOk] at ha
  | succ d =>
    cases hu : P.underlying t with
    | none => simp [akeyOk, hu] at ha
    | some td => exact ⟨td, rfl⟩

theorem mapTypes_some {t k e : TypeId} (hm : mapTypes P t = some (k, e)) : P.underlying t = some (.map k e) := by
  unfold mapTypes at hm
  split at hm
  · rename_i k' e' hu; simp at hm; obtain ⟨rfl, rfl⟩ := hm; exact hu
  · simp at hm

theorem entriesAt_some {r : Nat} {es : List (AV × AV × Nat)} {c : Nat} (he : entriesAt h r = some (es, c)) : h[r]? = some (.mp es c) := by
  unfold entriesAt at he
  split at he
  · rename_i es' c' hu; simp at he; obtain ⟨rfl, rfl⟩ := he; exact hu
  · simp at he

theorem sim_lookup (R : Rel W0 σ h w) {t : TypeId} {m k v : AV} {m' k' : Value} {ok : Bool} (hm : VR σ m m') (hk : VR σ k k') (ha : alookup P h t m k ok = some v) :
    ∃ v', (Instr.lookup t m' k' ok).run P w = .ok v' w ∧ VR σ v v' := by
  unfold alookup at ha
  split at ha
  · simp at ha
  · rename_i kt et hmt
    have hu := mapTypes_some hmt
    simp only [Option.bind_eq_some_iff] at ha
    obtain ⟨es, hes, ha⟩ := ha
    split at ha
    · rename_i hko
      simp only [Option.bind_eq_some_iff] at ha
      obtain ⟨r, hr, ha⟩ := ha
      obtain ⟨td, htd⟩ := keyOk_under hko
      -- the entries in the world
      have hrow : ∃ es' : Array MapEntry, ERs σ es es'.toList ∧ ((m' = .map none ∧ es' = #[]) ∨ ∃ b c, m' = .map (some b) ∧ (getObj b).run P w = .ok (.map es' c) w) := by
        unfold mapList at hes
        split at hes
        · simp at hes; subst hes; cases hm; exact ⟨#[], .nil, .inl ⟨rfl, rfl⟩⟩
        · rename_i r0
          simp only [Option.map_eq_some_iff] at hes
          obtain ⟨⟨es0, c0⟩, he0, rfl⟩ := hes
          cases hm with
          | map _ p hp =>
          obtain ⟨es', h1, h2⟩ := R.obj (entriesAt_some he0) hp
          have hg : (getObj p.blk).run P w = .ok (.map es' c0) w := by simp [getObj, Sem.run, h1]
          exact ⟨es', h2, .inr ⟨p.blk, c0, rfl, hg⟩⟩
        · simp at hes
      obtain ⟨es', he1, he2⟩ := hrow
      obtain ⟨r', hf1, hf2⟩ := sim_findKey (P := P) htd hk he1 hr w
      have hck := sim_keyOk (empty := es'.isEmpty) 10000 kt k k' w hk hko
      have fin : ∀ y : Option (Nat × Value), FindR σ r y → ∃ v', ((match y with
            | some (_, v) => pure (v, true)
            | none => (do pure (← zeroValue et, false)) : Sem (Value × Bool)).run P w = .ok v' w) ∧ VR σ v (if ok then .tuple #[v'.1, .bool v'.2] else v'.1) := by
        intro y hy
        cases r with
        | some x =>
          cases y with
          | none => exact hy.elim
          | some y =>
          simp at ha; subst ha
          refine ⟨(y.2, true), by simp, ?_⟩
          cases ok with
          | true => exact .tup _ _ (.cons _ _ _ _ hy.2 (.cons _ _ _ _ (.bool true) .nil))
          | false => exact hy.2
        | none =>
          cases y with
          | some y => exact hy.elim
          | none =>
          simp only [Option.map_eq_some_iff] at ha
          obtain ⟨z, hz, rfl⟩ := ha
          obtain ⟨zv, hz1, hz2⟩ := run_zeroA hz σ w
          refine ⟨(zv, false), by simp [hz1], ?_⟩
          cases ok with
          | true => exact .tup _ _ (.cons _ _ _ _ hz2 (.cons _ _ _ _ (.bool false) .nil))
          | false => exact hz2
      obtain ⟨v', hv1, hv2⟩ := fin r' hf2
      refine ⟨_, ?_, hv2⟩
      rcases he2 with ⟨rfl, rfl⟩ | ⟨b, c, rfl, hg⟩
      · simp only [Instr.lookup, Sem.run_bind, run_underlying hu, Result.andThen_ok, Sem.run_pure, hck, hf1]
        cases r' with
        | some y => simp at hv1; subst hv1; cases ok <;> simp
        | none =>
          cases hzz : (zeroValue et).run P w with
          | ok a b => simp [hzz] at hv1; obtain ⟨rfl, rfl⟩ := hv1; cases ok <;> simp [hzz]
          | halt a b => simp [hzz] at hv1
      · simp only [Instr.lookup, Sem.run_bind, run_underlying hu, Result.andThen_ok, Sem.run_pure, hg, hck, hf1]
        cases r' with
        | some y => simp at hv1; subst hv1; cases ok <;> simp
        | none =>
          cases hzz : (zeroValue et).run P w with
          | ok a b => simp [hzz] at hv1; obtain ⟨rfl, rfl⟩ := hv1; cases ok <;> simp [hzz]
          | halt a b => simp [hzz] at hv1
    · simp at ha

theorem ERs.length {σ : Sig} : ∀ {l : List (AV × AV × Nat)} {m : List MapEntry}, ERs σ l m → l.length = m.length
  | _, _, .nil => rfl
  | _, _, .cons _ _ _ _ _ _ _ _ _ t => by simp [t.length]

theorem ERs.get {σ : Sig} : ∀ {l : List (AV × AV × Nat)} {m : List MapEntry}, ERs σ l m → ∀ {i : Nat} {x}, l[i]? = some x → ∃ e, m[i]? = some e ∧ VR σ x.1 e.key ∧ VR σ x.2.1 e.val ∧ e.born = x.2.2
  | _, _, .nil, _, _, h => by simp at h
  | _, _, .cons k v b e l m hk hv hb t, 0, _, hx => by simp at hx; subst hx; exact ⟨e, rfl, hk, hv, hb⟩
  | _, _, .cons _ _ _ _ _ _ _ _ _ t, i + 1, _, hx => by simp at hx; obtain ⟨e, h1, h2⟩ := t.get hx; exact ⟨e, by simpa using h1, h2⟩

theorem ERs.modify {σ : Sig} {k v : AV} {b : Nat} (f : MapEntry → MapEntry) : ∀ {l : List (AV × AV × Nat)} {m : List MapEntry}, ERs σ l m → ∀ {i : Nat}, (∀ e, m[i]? = some e → VR σ k (f e).key ∧ VR σ v (f e).val ∧ (f e).born = b) → ERs σ (l.set i (k, v, b)) (m.modify i f)
  | _, _, .nil, i, _ => by cases i <;> exact .nil
  | _, _, .cons k0 v0 b0 e l m hk hv hb t, 0, hf => by
    obtain ⟨h1, h2, h3⟩ := hf e rfl
    exact .cons _ _ _ _ _ _ h1 h2 h3 t
  | _, _, .cons k0 v0 b0 e l m hk hv hb t, i + 1, hf => .cons _ _ _ _ _ _ hk hv hb (t.modify f fun e' he => hf e' (by simpa using he))

theorem ERs.snoc {σ : Sig} {k v : AV} {b : Nat} {e : MapEntry} (hk : VR σ k e.key) (hv : VR σ v e.val) (hb : e.born = b) : ∀ {l : List (AV × AV × Nat)} {m : List MapEntry}, ERs σ l m → ERs σ (l ++ [(k, v, b)]) (m ++ [e])
  | _, _, .nil => .cons _ _ _ _ _ _ hk hv hb .nil
  | _, _, .cons _ _ _ _ _ _ h1 h2 h3 t => .cons _ _ _ _ _ _ h1 h2 h3 (t.snoc hk hv hb)

theorem ERs.erase {σ : Sig} : ∀ {l : List (AV × AV × Nat)} {m : List MapEntry}, ERs σ l m → ∀ (i : Nat), ERs σ (l.eraseIdx i) (m.eraseIdx i)
  | _, _, .nil, i => by simp; exact .nil
  | _, _, .cons _ _ _ _ _ _ _ _ _ t, 0 => by simpa using t
  | _, _, .cons _ _ _ _ _ _ h1 h2 h3 t, i + 1 => by simpa using .cons _ _ _ _ _ _ h1 h2 h3 (t.erase i)

theorem Below.putObj {B : Nat} {a w : World} (hb : RowKit.Below B a w) {r : Nat} (hr : B ≤ r) (o : Obj) : RowKit.Below B a (w.putObj r o) :=
  hb.trans ⟨rfl, rfl, rfl, by simp, fun k hk => World.putObj_heap_other (by omega)⟩

/-- An object of the call's own that is no row of cells is turned. -/
theorem Rel.setObj (R : Rel W0 σ h w) {i : Nat} {b b' : ABlk} {p : Plc} (hb : h[i]? = some b) (hp : σ[i]? = some p) (hm : b.mine = true) (hro : b.isRo = false) (hpar : b.par = none) (hm' : b'.isFar = false) (o : Obj)
    (ho : ObjR σ p (w.putObj p.blk o) b') : Rel W0 σ (h.set i b') (w.putObj p.blk o) ∧ Stp σ h w σ (h.set i b') (w.putObj p.blk o) := by
  have := R.modify (w' := w.putObj p.blk o) hb hp hm hro hm' (fun k hk => World.putObj_heap_other hk) (by simp) (Below.putObj R.below (R.own hb hp hm) o) ho
  rw [hpar] at this
  exact this

theorem Rel.setMap (R : Rel W0 σ h w) {r c c2 : Nat} {es es2 : List (AV × AV × Nat)} {es2' : Array MapEntry} {p : Plc} (he : entriesAt h r = some (es, c)) (hp : σ[r]? = some p) (h2 : ERs σ es2 es2'.toList) :
    (Go.setObj p.blk (.map es2' c2)).run P w = .ok () (w.putObj p.blk (.map es2' c2)) ∧ Rel W0 σ (h.set r (.mp es2 c2)) (w.putObj p.blk (.map es2' c2)) ∧ Stp σ h w σ (h.set r (.mp es2 c2)) (w.putObj p.blk (.map es2' c2)) := by
  have hb := entriesAt_some he
  obtain ⟨es', h1, _⟩ := R.obj hb hp
  have hlt : p.blk < w.heap.size := (Array.getElem?_eq_some_iff.1 h1).1
  have key := R.setObj (b' := .mp es2 c2) hb hp rfl rfl rfl rfl (.map es2' c2) ⟨es2', World.putObj_heap_same hlt, h2⟩
  refine ⟨?_, key⟩
  simp [Go.setObj, Sem.run, h1, World.putObj]

theorem plain_bits {a b : AV} {x y : Value} (hx : VR σ a x) (hy : VR σ b y) (he : AV.beq a b = true) (hb : b.plain = true) (n : Nat) : Instr.sameBits n x y = true := by
  cases hy <;> simp [AV.plain] at hb <;> cases hx <;> simp [AV.beq] at he
  · subst he; cases n <;> simp [Instr.sameBits]
  · obtain ⟨rfl, rfl⟩ := he; cases n <;> simp [Instr.sameBits]
  · rename_i s s'
    have : s' = s := ByteArray.ext he
    subst this; cases n <;> simp [Instr.sameBits] <;> exact (MapKept.bytes_beq _ _).2 rfl

theorem flat_bits {a b : AV} {x y : Value} (hx : VR σ a x) (hy : VR σ b y) (he : AV.beq a b = true) (hb : b.flat = true) (n : Nat) : Instr.sameBits (n + 1) x y = true := by
  by_cases hp : b.plain = true
  · exact plain_bits hx hy he hp _
  · unfold AV.flat at hb
    split at hb
    · rename_i l
      cases hy with
      | agg _ m hm =>
      cases hx <;> simp [AV.beq] at he
      rename_i l' m' hm'
      simp only [Instr.sameBits]
      have key : ∀ {l l' : List AV} {m m' : List Value}, VRs σ l m → VRs σ l' m' → AV.beqs l' l = true → l.all AV.plain = true →
          m'.length = m.length ∧ ((m'.zip m).all fun (x, y) => Instr.sameBits n x y) = true := by
        intro l
        induction l with
        | nil => intro l' m m' h1 h2 h3 _; cases l' with
          | nil => cases h1; cases h2; simp
          | cons a l' => simp [AV.beqs] at h3
        | cons b l ih => intro l' m m' h1 h2 h3 h4; cases l' with
          | nil => simp [AV.beqs] at h3
          | cons a l' =>
            simp [AV.beqs] at h3
            simp at h4
            cases h1 with
            | cons _ y _ m h1 t1 =>
            cases h2 with
            | cons _ x _ m' h2 t2 =>
            obtain ⟨e1, e2⟩ := ih t1 t2 h3.2 (by simpa using h4.2)
            refine ⟨by simp [e1], ?_⟩
            simp only [List.zip_cons_cons, List.all_cons, Bool.and_eq_true]
            exact ⟨plain_bits h2 h1 h3.1 h4.1 n, e2⟩
      obtain ⟨e1, e2⟩ := key hm hm' he (by simpa using hb)
      simp [e1, e2]
    · exact absurd hb hp

theorem run_stays {a b : AV} {x y : Value} (hx : VR σ a x) (hy : VR σ b y) (he : AV.beq a b = true) (hb : b.flat = true) (w : World) : (Instr.keyThatStays x y).run P w = .ok y w := by
  simp [Instr.keyThatStays, flat_bits hx hy he hb 9999]

theorem run_getMap {p : Plc} {es : Array MapEntry} {c : Nat} (hh : w.heap[p.blk]? = some (.map es c)) : (getObj p.blk).run P w = .ok (.map es c) w := by simp [getObj, Sem.run, hh]

/-- What the entry of a key turns into. -/
theorem sim_enter (R : Rel W0 σ h w) {t : TypeId} {r : Nat} {p : Plc} {k : AV} {k' : Value} {old : AV → AV} {new : Option AV} {y : AV × Nat × AHeap} (hp : σ[r]? = some p) (hk : VR σ k k') (ha : aenter P h t r k old new = some y) :
    ∃ kt et es c es' r', P.underlying t = some (.map kt et) ∧ mapTypes P t = some (kt, et) ∧ entriesAt h r = some (es, c) ∧ ERs σ es es'.toList ∧ w.heap[p.blk]? = some (.map es' c) ∧
      (Instr.checkKey false 10000 kt k').run P w = .ok () w ∧ (Instr.findKey kt k' es'.toList).run P w = .ok r' w ∧
      ((∃ i v v' e e', r' = some (i, v') ∧ VR σ v v' ∧ y.1 = v ∧ es'[i]? = some e' ∧ es[i]? = some e ∧ (Instr.keyThatStays e'.key k').run P w = .ok k' w ∧ e'.born = e.2.2 ∧ VR σ e.2.1 e'.val ∧ y = (v, e.2.2, h.set r (.mp (es.set i (k, old e.2.1, e.2.2)) c))) ∨
       (∃ z, r' = none ∧ new = some z ∧ y = (z, c, h.set r (.mp (es ++ [(k, z, c)]) (c + 1))))) := by
  unfold aenter at ha
  split at ha
  · rename_i kt et es c hmt hent
    split at ha
    · rename_i hko
      simp only [Option.bind_eq_some_iff] at ha
      obtain ⟨q, hq, ha⟩ := ha
      obtain ⟨td, htd⟩ := keyOk_under hko
      obtain ⟨es', h1, h2⟩ := R.obj (entriesAt_some hent) hp
      obtain ⟨r', hf1, hf2⟩ := sim_findKey (P := P) htd hk h2 hq w
      refine ⟨kt, et, es, c, es', r', mapTypes_some hmt, hmt, hent, h2, h1, sim_keyOk 10000 kt k k' w hk hko, hf1, ?_⟩
      cases q with
      | some x =>
        cases r' with
        | none => exact hf2.elim
        | some x' =>
        obtain ⟨i, v⟩ := x
        obtain ⟨i', v'⟩ := x'
        obtain ⟨e1, e2⟩ := hf2
        simp at e1 e2; subst e1
        simp only at ha
        split at ha
        · rename_i e he
          split at ha
          · rename_i hb
            simp at ha; subst ha
            obtain ⟨e', g1, g2, g3, g4⟩ := h2.get he
            refine .inl ⟨i, v, v', e, e', rfl, e2, rfl, by simpa using g1, he, run_stays g2 hk hb.1 hb.2 w, g4, g3, rfl⟩
          · simp at ha
        · simp at ha
      | none =>
        cases r' with
        | some x' => exact hf2.elim
        | none =>
        simp only [Option.map_eq_some_iff] at ha
        obtain ⟨z, hz, rfl⟩ := ha
        exact .inr ⟨z, rfl, hz, rfl⟩
    · simp at ha
  · simp at ha

theorem sim_mapUpdate (R : Rel W0 σ h w) {t : TypeId} {m k v : AV} {m' k' v' : Value} {h' : AHeap} (hm : VR σ m m') (hk : VR σ k k') (hv : VR σ v v') (ha : amapUpdate P h t m k v = some h') :
    ∃ w', (Instr.mapUpdate t m' k' v').run P w = .ok () w' ∧ Rel W0 σ h' w' ∧ Stp σ h w σ h' w' := by
  unfold amapUpdate at ha
  split at ha
  · rename_i r
    simp only [Option.map_eq_some_iff] at ha
    obtain ⟨y, hy, rfl⟩ := ha
    cases hm with
    | map _ p hp =>
    obtain ⟨kt, et, es, c, es', r', hu, hmt, hent, h2, h1, hck, hf, hcase⟩ := sim_enter R hp hk hy
    have hg := run_getMap (P := P) h1
    rcases hcase with ⟨i, v0, v0', e, e', rfl, _, _, g1, g2, g3, g4, g5, rfl⟩ | ⟨z, rfl, hz, rfl⟩
    · obtain ⟨s1, s2, s3⟩ := R.setMap (P := P) (c2 := c) (es2' := es'.modify i fun e => { e with key := k', val := v' }) hent hp
        (es2 := es.set i (k, v, e.2.2)) (by
          rw [Array.toList_modify]
          exact h2.modify _ fun e0 he0 => ⟨hk, hv, by
            have : e' = e0 := by simpa [Array.getElem?_toList, g1] using he0
            subst this; exact g4⟩)
      exact ⟨_, by simp [Instr.mapUpdate, run_underlying hu, hg, hck, hf, g1, g3, s1], s2, s3⟩
    · simp at hz; subst hz
      obtain ⟨s1, s2, s3⟩ := R.setMap (P := P) (c2 := c + 1) (es2' := es'.push { key := k', val := v', born := c }) hent hp
        (es2 := es ++ [(k, v, c)]) (by rw [Array.toList_push]; exact h2.snoc (e := { key := k', val := v', born := c }) hk hv rfl)
      exact ⟨_, by simp [Instr.mapUpdate, run_underlying hu, hg, hck, hf, s1], s2, s3⟩
  · simp at ha

theorem sim_mapEntry (R : Rel W0 σ h w) {t : TypeId} {m k : AV} {m' k' : Value} {y : AV × AHeap} (hm : VR σ m m') (hk : VR σ k k') (ha : amapEntry P h t m k = some y) :
    ∃ v' w', (Instr.mapEntry t m' k').run P w = .ok v' w' ∧ Rel W0 σ y.2 w' ∧ Stp σ h w σ y.2 w' ∧ VR σ y.1 v' := by
  unfold amapEntry at ha
  split at ha
  · rename_i r
    simp only [Option.map_eq_some_iff] at ha
    obtain ⟨y, hy, rfl⟩ := ha
    cases hm with
    | map _ p hp =>
    obtain ⟨kt, et, es, c, es', r', hu, hmt, hent, h2, h1, hck, hf, hcase⟩ := sim_enter R hp hk hy
    have hg := run_getMap (P := P) h1
    rcases hcase with ⟨i, v0, v0', e, e', rfl, hv0, _, g1, g2, g3, g4, g5, rfl⟩ | ⟨z, rfl, hz, rfl⟩
    · obtain ⟨s1, s2, s3⟩ := R.setMap (P := P) (c2 := c) (es2' := es'.modify i fun e => { e with key := k' }) hent hp
        (es2 := es.set i (k, id e.2.1, e.2.2)) (by
          rw [Array.toList_modify]
          exact h2.modify _ fun e0 he0 => by
            have : e' = e0 := by simpa [Array.getElem?_toList, g1] using he0
            subst this; exact ⟨hk, g5, g4⟩)
      exact ⟨_, _, by simp [Instr.mapEntry, run_underlying hu, hg, hck, hf, g1, g3, s1, g4, goInt], s2, s3,
        .tup _ [v0', .int .i64 e.2.2] (.cons _ _ _ _ hv0 (.cons _ _ _ _ (.int _ _) .nil))⟩
    · simp only [Option.bind_eq_some_iff] at hz
      obtain ⟨q, hq, hz⟩ := hz
      rw [hmt] at hq; simp at hq; subst hq
      obtain ⟨zv, hz1, hz2⟩ := run_zeroA hz σ w
      obtain ⟨s1, s2, s3⟩ := R.setMap (P := P) (c2 := c + 1) (es2' := es'.push { key := k', val := zv, born := c }) hent hp
        (es2 := es ++ [(k, z, c)]) (by rw [Array.toList_push]; exact h2.snoc (e := { key := k', val := zv, born := c }) hk hz2 rfl)
      exact ⟨_, _, by simp [Instr.mapEntry, run_underlying hu, hg, hck, hf, hz1, s1]; rfl, s2, s3,
        .tup _ _ (.cons _ _ _ _ hz2 (.cons _ _ _ _ (.int _ _) .nil))⟩
  · simp at ha

theorem ERs.findIdx {σ : Sig} (b : Int) : ∀ {l : List (AV × AV × Nat)} {m : List MapEntry}, ERs σ l m → m.findIdx? (fun e => (e.born : Int) == b) = l.findIdx? (fun e => (e.2.2 : Int) == b)
  | _, _, .nil => by simp
  | _, _, .cons k v n e l m hk hv hb t => by simp only [List.findIdx?_cons, hb, t.findIdx]

theorem findIdx_arr' (xs : Array MapEntry) (p : MapEntry → Bool) : xs.findIdx? p = xs.toList.findIdx? p := by
  obtain ⟨l⟩ := xs; simp

theorem sim_entryStore (R : Rel W0 σ h w) {t : TypeId} {m s v : AV} {m' s' v' : Value} {h' : AHeap} (hm : VR σ m m') (hs : VR σ s s') (hv : VR σ v v') (ha : aentryStore h m s v = some h') :
    ∃ w', (Instr.entryStore t m' s' v').run P w = .ok () w' ∧ Rel W0 σ h' w' ∧ Stp σ h w σ h' w' := by
  unfold aentryStore at ha
  split at ha
  · rename_i r k b
    split at ha
    · rename_i es c hent
      simp only [Option.bind_eq_some_iff, Option.map_eq_some_iff] at ha
      obtain ⟨i, hi, e, he, rfl⟩ := ha
      cases hs
      cases hm with
      | map _ p hp =>
      obtain ⟨es', h1, h2⟩ := R.obj (entriesAt_some hent) hp
      have hg := run_getMap (P := P) h1
      obtain ⟨e', g1, g2, g3, g4⟩ := h2.get he
      obtain ⟨s1, s2, s3⟩ := R.setMap (P := P) (c2 := c) (es2' := es'.modify i fun e => { e with val := v' }) hent hp
        (es2 := es.set i (e.1, v, e.2.2)) (by
          rw [Array.toList_modify]
          exact h2.modify _ fun e0 he0 => by
            have : e' = e0 := by simpa [Array.getElem?_toList, g1] using he0
            subst this; exact ⟨g2, hv, g4⟩)
      have hfi : es'.findIdx? (fun e => (e.born : Int) == b) = some i := by
        rw [findIdx_arr', h2.findIdx b, hi]
      exact ⟨_, by simp [Instr.entryStore, hg, asInt, asIntOf, hfi, s1], s2, s3⟩
    · simp at ha
  · simp at ha

theorem toList_eraseIn {α : Type} (a : Array α) (i : Nat) : (a.eraseIdxIfInBounds i).toList = a.toList.eraseIdx i := by
  unfold Array.eraseIdxIfInBounds
  split
  · simp
  · rename_i hh; rw [List.eraseIdx_of_length_le (by simpa using hh)]

theorem sim_delete (R : Rel W0 σ h w) {t ty : TypeId} {ts : Array TypeId} {m k : AV} {m' k' : Value} {h' : AHeap} (ht : ts[0]? = some t) (hm : VR σ m m') (hk : VR σ k k') (ha : adelete P h t m k = some h') :
    ∃ w', (Builtin.delete_ ts ty #[m', k']).run P w = .ok (.tuple #[]) w' ∧ Rel W0 σ h' w' ∧ Stp σ h w σ h' w' := by
  unfold adelete at ha
  split at ha
  · simp at ha
  · rename_i kt et hmt
    have hu := mapTypes_some hmt
    split at ha
    · rename_i hko
      have hck : ∀ b, (Instr.checkKey b 10000 kt k').run P w = .ok () w := fun b => sim_keyOk 10000 kt k k' w hk hko
      split at ha
      · cases hm; simp at ha; subst ha
        exact ⟨w, by simp [Builtin.delete_, ht, run_underlying hu, hck], R, Stp.refl _ _ _⟩
      · rename_i r
        split at ha
        · rename_i es c hent
          simp only [Option.map_eq_some_iff] at ha
          obtain ⟨q, hq, rfl⟩ := ha
          obtain ⟨td, htd⟩ := keyOk_under hko
          cases hm with
          | map _ p hp =>
          obtain ⟨es', h1, h2⟩ := R.obj (entriesAt_some hent) hp
          have hg := run_getMap (P := P) h1
          obtain ⟨r', hf1, hf2⟩ := sim_findKey (P := P) htd hk h2 hq w
          cases q with
          | some x =>
            cases r' with
            | none => exact hf2.elim
            | some x' =>
            obtain ⟨i, v⟩ := x
            obtain ⟨i', v'⟩ := x'
            obtain ⟨e1, e2⟩ := hf2
            simp at e1; subst e1
            obtain ⟨s1, s2, s3⟩ := R.setMap (P := P) (c2 := c) (es2' := es'.eraseIdxIfInBounds i) hent hp
              (es2 := es.eraseIdx i) (by rw [toList_eraseIn]; exact h2.erase i)
            exact ⟨_, by simp [Builtin.delete_, ht, run_underlying hu, hck, hg, hf1, s1], s2, s3⟩
          | none =>
            cases r' with
            | some x' => exact hf2.elim
            | none =>
            obtain ⟨s1, s2, s3⟩ := R.setMap (P := P) (c2 := c) (es2' := es') hent hp h2
            exact ⟨_, by simp [Builtin.delete_, ht, run_underlying hu, hck, hg, hf1, s1], s2, s3⟩
        · simp at ha
      · simp at ha
    · simp at ha

end Go.Abs
