/- Operation by operation: what the interpreter tells is what the model's operation yields. First part: types, loads, stores, fields, indices, slices. -/
import Derived.Test.YtmlmdbicbpicbaaAbs3
import Derived.ChangeKeysEq
set_option autoImplicit false
set_option linter.unusedVariables false
set_option linter.unusedSimpArgs false
namespace Go.Abs
variable {P : Program} {W0 : World} {σ : Sig} {h : AHeap} {w : World}

theorem ofV1_vr (σ : Sig) (v : Value) : VR σ (ofV1 v) v := by
  cases v with
  | pointer a => cases a with
    | none => exact .ptr0
    | some a => exact .any _
  | slice a l c => cases a with
    | none =>
      unfold ofV1
      split
      all_goals first | exact .any _ | skip
      all_goals rename_i heq; first | (cases heq; exact .sl0 true) | cases heq
    | some a => exact .any _
  | map r => cases r with
    | none => exact .map0
    | some a => exact .any _
  | func fn first captured =>
    cases fn with
    | func f =>
      simp only [ofV1]
      split
      · rename_i hc
        simp only [Bool.and_eq_true, Array.isEmpty_iff] at hc
        obtain ⟨rfl, rfl⟩ := hc
        exact .fn f [] [] .nil
      · exact .any _
    | _ => exact .any _
  | bool b => exact .bool b
  | int k n => exact .int k n
  | string s => exact .str s
  | nilFunc => exact .nilFn
  | _ => exact .any _

theorem ofV_vr (σ : Sig) (v : Value) : VR σ (ofV v) v := by
  cases v with
  | agg cs =>
    have := VRs.map_of (σ := σ) ofV1 id cs.toList fun x _ => ofV1_vr σ x
    simp only [List.map_id_fun, id] at this
    have h := VR.agg _ _ this
    simpa [ofV] using h
  | tuple cs =>
    have := VRs.map_of (σ := σ) ofV1 id cs.toList fun x _ => ofV1_vr σ x
    simp only [List.map_id_fun, id] at this
    have h := VR.tup _ _ this
    simpa [ofV] using h
  | bool b => exact ofV1_vr σ (.bool b)
  | int k n => exact ofV1_vr σ (.int k n)
  | string s => exact ofV1_vr σ (.string s)
  | pointer a => exact ofV1_vr σ (.pointer a)
  | slice a l c => exact ofV1_vr σ (.slice a l c)
  | map r => exact ofV1_vr σ (.map r)
  | func f a b => exact ofV1_vr σ (.func f a b)
  | nilFunc => exact .nilFn
  | _ => exact .any _

theorem cells_vr {a : AV} {v : Value} {xs : List AV} (hv : VR σ a v) (hc : a.cells = some xs) : VRs σ xs v.cells.toList := by
  cases hv with
  | any => simp [AV.cells] at hc
  | tup => simp [AV.cells] at hc
  | agg l cs h => simp [AV.cells] at hc; subst hc; simpa [Value.cells] using h
  | bool b => simp [AV.cells] at hc; subst hc; exact .cons _ _ _ _ (.bool b) .nil
  | int k n => simp [AV.cells] at hc; subst hc; exact .cons _ _ _ _ (.int k n) .nil
  | str s => simp [AV.cells] at hc; subst hc; exact .cons _ _ _ _ (.str s) .nil
  | ptr0 => simp [AV.cells] at hc; subst hc; exact .cons _ _ _ _ .ptr0 .nil
  | ptr i o p h => simp [AV.cells] at hc; subst hc; exact .cons _ _ _ _ (.ptr i o p h) .nil
  | sl0 e => simp [AV.cells] at hc; subst hc; exact .cons _ _ _ _ (.sl0 e) .nil
  | sl i o l c e p a c' h hl hcc ha => simp [AV.cells] at hc; subst hc; exact .cons _ _ _ _ (.sl i o l c e p a c' h hl hcc ha) .nil
  | sln i o p h hcc => simp [AV.cells] at hc; subst hc; exact .cons _ _ _ _ (.sln i o p h hcc) .nil
  | map0 => simp [AV.cells] at hc; subst hc; exact .cons _ _ _ _ .map0 .nil
  | map i p h => simp [AV.cells] at hc; subst hc; exact .cons _ _ _ _ (.map i p h) .nil
  | fn f cap cap' h => simp [AV.cells] at hc; subst hc; exact .cons _ _ _ _ (.fn f cap cap' h) .nil
  | yld i p h => simp [AV.cells] at hc; subst hc; exact .cons _ _ _ _ (.yld i p h) .nil
  | nilFn => simp [AV.cells] at hc; subst hc; exact .cons _ _ _ _ .nilFn .nil

theorem run_sizeA {t : TypeId} {n : Nat} (hs : sizeA P t = some n) (w : World) : (sizeOf t).run P w = .ok n w := by
  unfold sizeA at hs
  simp only [Option.map_eq_some_iff] at hs
  obtain ⟨i, hi, rfl⟩ := hs
  simp [sizeOf, typeInfo, hi]

theorem run_isAggA {t : TypeId} {b : Bool} (hs : isAggA P t = some b) (w : World) : (isAgg t).run P w = .ok b w := by
  unfold isAggA at hs
  split at hs
  · rename_i fs hu; simp at hs; subst hs; simp [isAgg, run_underlying hu]
  · rename_i n e hu; simp at hs; subst hs; simp [isAgg, run_underlying hu]
  · rename_i d h1 h2 hu
    simp at hs; subst hs
    cases d with
    | struct fs => exact absurd rfl (h1 _)
    | array n e => exact absurd rfl (h2 _ _)
    | _ => simp [isAgg, run_underlying hu]
  · simp at hs

theorem run_zeroA {t : TypeId} {z : AV} (hz : zeroA P t = some z) (σ : Sig) (w : World) : ∃ v, (zeroValue t).run P w = .ok v w ∧ VR σ z v := by
  unfold zeroA at hz
  simp only [Option.map_eq_some_iff, Option.bind_eq_some_iff] at hz
  obtain ⟨v, ⟨i, hi, hv⟩, rfl⟩ := hz
  exact ⟨v, by simp [zeroValue, typeInfo, hi, hv], ofV_vr σ v⟩

theorem run_bytesA {t : TypeId} {n : Nat} (hs : bytesA P t = some n) (w : World) : ∃ i, (typeInfo t).run P w = .ok i w ∧ i.bytes = n := by
  unfold bytesA at hs
  simp only [Option.map_eq_some_iff] at hs
  obtain ⟨i, hi, rfl⟩ := hs
  exact ⟨i, by simp [typeInfo, hi], rfl⟩

theorem sliceElem_some {t e : TypeId} (hs : sliceElem P t = some e) : P.underlying t = some (.slice e) := by
  unfold sliceElem at hs
  split at hs
  · rename_i e' hu; simp at hs; subst hs; exact hu
  · simp at hs

theorem typed_some {d : Option TypeDesc} {x : Option AV} {v : AV} (hv : typed d x = some v) : x = some v := by
  unfold typed at hv
  split at hv
  · split at hv
    · rename_i k hk
      unfold isIntV at hk
      split at hk
      · simp at hk; subst hk; simp [intV] at hv; rw [hv]
      · simp at hk
    · simp at hv
  · split at hv
    · rename_i hk
      unfold isBoolV at hk
      split at hk
      · simp [boolV] at hv; rw [hv]
      · simp at hk
    · simp at hv
  · exact hv

theorem sim_load (R : Rel W0 σ h w) {t : TypeId} {a v : AV} {a' : Value} (ha : VR σ a a') (hl : aload P h t a = some v) :
    ∃ v', (Instr.loadAt t a').run P w = .ok v' w ∧ VR σ v v' := by
  unfold aload at hl
  split at hl
  · rename_i i o
    cases ha with
    | ptr _ _ p hp =>
    split at hl
    · rename_i n hag hsz
      simp only [Option.map_eq_some_iff] at hl
      obtain ⟨cs, hc, rfl⟩ := hl
      obtain ⟨vs, h1, h2, _⟩ := R.loadCells (P := P) hc hp
      exact ⟨_, by simp [Instr.loadAt, Instr.sureAddr, loadVar, run_isAggA hag, run_sizeA hsz, h1], .agg _ _ h2⟩
    · rename_i hag
      obtain ⟨v', h1, h2⟩ := R.cellAt (typed_some hl) hp
      exact ⟨v', by simp [Instr.loadAt, Instr.sureAddr, loadVar, run_isAggA hag, h1], h2⟩
    · simp at hl
  · simp at hl

theorem sim_store (R : Rel W0 σ h w) {t : TypeId} {a v : AV} {a' v' : Value} {h' : AHeap} (ha : VR σ a a') (hv : VR σ v v') (hs : astore P h t a v = some h') :
    ∃ w', (Instr.storeAt t a' v').run P w = .ok () w' ∧ Rel W0 σ h' w' ∧ Stp σ h w σ h' w' := by
  unfold astore at hs
  split at hs
  · rename_i i o
    cases ha with
    | ptr _ _ p hp =>
    split at hs
    · rename_i xs n hcx hsz
      split at hs
      · rename_i hn
        have hvs := cells_vr hv hcx
        obtain ⟨w', h1, h2, h3⟩ := R.putAt (P := P) hs (by rintro rfl; simp at hn) hp hvs
        have hlen : v'.cells.size = n + 1 := by rw [← Array.length_toList, ← hvs.length, hn]
        exact ⟨w', by simp [Instr.storeAt, Instr.sureAddr, storeVar, run_sizeA hsz, hlen, h1], h2, h3⟩
      · simp at hs
    · simp at hs
  · simp at hs

theorem sim_part {t : TypeId} {l : List AV} {m : List Value} {off : Nat} {v : AV} (hl : VRs σ l m) (hp : apart P t l off = some v) (w : World) :
    ∃ v', (part t m.toArray off).run P w = .ok v' w ∧ VR σ v v' := by
  unfold apart at hp
  split at hp
  · rename_i n hag hsz
    split at hp
    · simp at hp; subst hp
      refine ⟨.agg ((m.drop off).take n).toArray, ?_, .agg _ _ ((hl.drop off).take n)⟩
      simp [part, run_isAggA hag, run_sizeA hsz]
    · simp at hp
  · rename_i n hag hsz
    obtain ⟨v', h1, h2⟩ := hl.get (typed_some hp)
    refine ⟨v', ?_, h2⟩
    simp [part, run_isAggA hag, h1]
  · simp at hp

theorem sim_field {xt : TypeId} {x v : AV} {x' : Value} {f : Nat} (hx : VR σ x x') (hf : afield P xt x f = some v) (w : World) :
    ∃ v', (Instr.field xt x' f).run P w = .ok v' w ∧ VR σ v v' := by
  unfold afield at hf
  split at hf
  · rename_i fs cs hu
    split at hf
    · rename_i fd hfd
      cases hx with
      | agg _ m hm =>
      obtain ⟨v', h1, h2⟩ := sim_part hm hf w
      exact ⟨v', by simp [Instr.field, run_underlying hu, hfd, asAgg, h1], h2⟩
    · simp at hf
  · simp at hf

theorem sim_fieldAddr {s : TypeId} {x v : AV} {x' : Value} {f : Nat} (hx : VR σ x x') (hf : afieldAddr P s x f = some v) (w : World) :
    ∃ v', (Instr.fieldAt s x' f).run P w = .ok v' w ∧ VR σ v v' := by
  unfold afieldAddr at hf
  split at hf
  · rename_i fs i o hu
    split at hf
    · rename_i fd hfd
      split at hf
      · rename_i n hsz
        simp at hf; subst hf
        cases hx with
        | ptr _ _ p hp =>
        refine ⟨.pointer (some ⟨p.blk, p.off + (o + fd.offset), none⟩), ?_, .ptr _ _ p hp⟩
        simp [Instr.fieldAt, run_underlying hu, hfd, Instr.sureAddr, fieldPlace, run_sizeA hsz, addr_add, Nat.add_assoc]
      · simp at hf
    · simp at hf
  · simp at hf

theorem sim_indexAddr {t : TypeId} {x ix v : AV} {x' ix' : Value} (hx : VR σ x x') (hi : VR σ ix ix') (hf : aindexAddr P t x ix = some v) (w : World) :
    ∃ v', (Instr.indexAt t x' ix').run P w = .ok v' w ∧ VR σ v v' := by
  unfold aindexAddr at hf
  split at hf
  · rename_i k n
    cases hi
    split at hf
    · rename_i len e i o hu
      split at hf
      · rename_i sz hsz
        split at hf
        · rename_i hb
          simp at hf; subst hf
          cases hx with
          | ptr _ _ p hp =>
          refine ⟨.pointer (some ⟨p.blk, p.off + (o + n.toNat * sz), none⟩), ?_, .ptr _ _ p hp⟩
          simp [Instr.indexAt, asIntOf, run_underlying hu, Instr.sureAddr, hb, run_sizeA hsz, addr_add, Nat.add_assoc]
        · simp at hf
      · simp at hf
    · rename_i e i o len c ex hu
      split at hf
      · rename_i sz hsz
        split at hf
        · rename_i hb
          simp at hf; subst hf
          cases hx with
          | sl _ _ _ _ _ p a c' hp hl hc ha =>
          have hne : c' ≠ 0 := by omega
          obtain rfl := ha.resolve_right hne
          refine ⟨.pointer (some ⟨p.blk, p.off + (o + n.toNat * sz), none⟩), ?_, .ptr _ _ p hp⟩
          simp [Instr.indexAt, asIntOf, run_underlying hu, hb, run_sizeA hsz, addr_add, Nat.add_assoc]
          | sln => omega
        · simp at hf
      · simp at hf
    · simp at hf
  · simp at hf

theorem sim_index {t : TypeId} {x ix v : AV} {x' ix' : Value} (hx : VR σ x x') (hi : VR σ ix ix') (hf : aindex P t x ix = some v) (w : World) :
    ∃ v', (Instr.index t x' ix').run P w = .ok v' w ∧ VR σ v v' := by
  unfold aindex at hf
  split at hf
  · rename_i k n
    cases hi
    split at hf
    · rename_i len e cs hu
      split at hf
      · rename_i sz hsz
        split at hf
        · rename_i hb
          cases hx with
          | agg _ m hm =>
          obtain ⟨v', h1, h2⟩ := sim_part hm hf w
          exact ⟨v', by simp [Instr.index, asIntOf, run_underlying hu, hb, run_sizeA hsz, h1], h2⟩
        · simp at hf
      · simp at hf
    · rename_i s hu
      split at hf
      · rename_i hb
        simp only [Option.some.injEq] at hf
        subst hf
        cases hx with
        | str s' =>
        have hlt : n.toNat < s'.data.toList.length := by omega
        refine ⟨.int .u8 ((s'.data.toList.getD n.toNat 0).toNat : Int), ?_, .int _ _⟩
        have : s'[n.toNat]? = some (s'.data.toList.getD n.toNat 0) := by
          have h1 : n.toNat < s'.data.size := by simpa using hlt
          rw [List.getD_eq_getElem?_getD, List.getElem?_eq_getElem hlt, Option.getD_some, getElem?_pos s' n.toNat h1, ByteArray.getElem_eq_getElem_data, Array.getElem_toList]
        generalize s'.data.toList.getD n.toNat 0 = b at this ⊢
        simp [Instr.index, asIntOf, run_underlying hu, hb.1, this]
      · simp at hf
    · simp at hf
  · simp at hf

/-! ### Slices -/

def OptR (σ : Sig) : Option AV → Option Value → Prop
  | none, none => True
  | some x, some y => VR σ x y
  | _, _ => False

theorem sim_bounds {len cap cap' : Nat} {isS : Bool} {lo hi : Option AV} {lo' hi' : Option Value} {l hh : Option Int} {a b : Nat} (hcap : cap ≤ cap')
    (hlo : OptR σ lo lo') (hhi : OptR σ hi hi')
    (hl : aoptInt lo = some l) (hh' : aoptInt hi = some hh) (hb : abounds len cap l hh = some (a, b)) (w : World) :
    (Instr.sliceBounds isS len cap' lo' hi' none).run P w = .ok (a, b, cap') w := by
  cases lo with
  | none =>
    cases lo' with
    | some y => exact hlo.elim
    | none =>
    simp [aoptInt] at hl; subst hl
    cases hi with
    | none =>
      cases hi' with
      | some y => exact hhi.elim
      | none =>
      simp [aoptInt] at hh'; subst hh'
      simp [abounds] at hb
      obtain ⟨rfl, rfl⟩ := hb
      simp [Instr.sliceBounds]
    | some x =>
      cases hi' with
      | none => exact hhi.elim
      | some y =>
      cases x <;> simp [aoptInt] at hh'
      subst hh'
      cases hhi
      rename_i k n
      simp only [abounds] at hb
      split at hb
      · rename_i hc
        simp at hb
        obtain ⟨rfl, rfl⟩ := hb
        have : 0 ≤ n ∧ n ≤ (cap' : Int) := ⟨hc.1, by omega⟩
        simp [Instr.sliceBounds, Instr.sliceBound, asIntOf, this]
      · simp at hb
  | some x0 =>
    cases lo' with
    | none => exact hlo.elim
    | some y0 =>
    cases x0 <;> simp [aoptInt] at hl
    subst hl
    cases hlo
    rename_i k0 n0
    cases hi with
    | none =>
      cases hi' with
      | some y => exact hhi.elim
      | none =>
      simp [aoptInt] at hh'; subst hh'
      simp only [abounds] at hb
      split at hb
      · rename_i hc
        simp at hb
        obtain ⟨rfl, rfl⟩ := hb
        simp [Instr.sliceBounds, Instr.sliceBound, asIntOf, hc]
      · simp at hb
    | some x =>
      cases hi' with
      | none => exact hhi.elim
      | some y =>
      cases x <;> simp [aoptInt] at hh'
      subst hh'
      cases hhi
      rename_i k n
      simp only [abounds] at hb
      split at hb
      · rename_i hc
        split at hb
        · rename_i hc2
          simp at hb
          obtain ⟨rfl, rfl⟩ := hb
          have h1 : 0 ≤ n ∧ n ≤ (cap' : Int) := ⟨hc.1, by omega⟩
          have h2 : 0 ≤ n0 ∧ n0 ≤ (n.toNat : Int) := ⟨hc2.1, by omega⟩
          simp only [Instr.sliceBounds, Instr.sliceBound, asIntOf, Sem.run_bind, Sem.run_pure, Result.andThen_ok, h1, h2, and_self, if_true]
        · simp at hb
      · simp at hb

end Go.Abs
