/- Maps whose entries are letters: a list of keys, whole numbers, entry numbers. -/
import Derived.Test.YtpghomcohejejaaGcKit
import Derived.Test.YtpghomcohejejaaAddrB
set_option autoImplicit false
set_option linter.unusedVariables false
set_option linter.unusedSimpArgs false
namespace Go.Abs
variable {P : Program}

abbrev GM := List (AV × Int × Nat)
def esG (G : GM) : List (AV × AV × Nat) := G.map fun g => (g.1, AV.int .i64 g.2.1, g.2.2)
def fndG (k : AV) : GM → Nat → Option (Nat × Int × Nat)
  | [], _ => none
  | g :: G, i => if AV.beq g.1 k = true then some (i, g.2) else fndG k G (i + 1)
def valG (G : GM) (k : AV) : Int := match fndG k G 0 with
  | some x => x.2.1
  | none => 0
structure KeyOk (P : Program) (kt : TypeId) (k : AV) (G : GM) : Prop where
  eq : ∀ g ∈ G, aeqIn P 10000 kt k g.1 = some (AV.beq g.1 k)
  ok : akeyOk P 10000 kt k = true
  fl : k.flat = true
theorem afind_G {kt : TypeId} {k : AV} : ∀ (G : GM) (i : Nat), (∀ g ∈ G, aeqIn P 10000 kt k g.1 = some (AV.beq g.1 k)) → afind P kt k (esG G) i = some ((fndG k G i).map fun x => (x.1, AV.int .i64 x.2.1))
  | [], i, _ => rfl
  | g :: G, i, h => by
    have h1 := h g (by simp)
    have ih := afind_G G (i + 1) fun g' hg => h g' (by simp [hg])
    show (aeqIn P 10000 kt k g.1).bind _ = _
    rw [h1]
    simp only [Option.bind_some, fndG]
    split
    · rfl
    · exact ih
theorem fndG_at {k : AV} : ∀ {G : GM} {i j : Nat} {v : Int} {b : Nat}, fndG k G i = some (j, v, b) → i ≤ j ∧ G[j - i]? = some (k, v, b)
  | [], _, _, _, _, h => by simp [fndG] at h
  | g :: G, i, j, v, b, h => by
    unfold fndG at h
    split at h
    · rename_i hb
      have := AV.beq_eq _ _ hb
      obtain ⟨k', v', b'⟩ := g
      simp only [Option.some.injEq, Prod.mk.injEq] at h this
      obtain ⟨rfl, rfl, rfl⟩ := h
      subst this
      simp
    · obtain ⟨h1, h2⟩ := fndG_at h
      refine ⟨by omega, ?_⟩
      rw [show j - i = (j - (i + 1)) + 1 by omega]
      simpa using h2
theorem look_G {h : AHeap} {t kt et : TypeId} {r c : Nat} {s : Bool} {k : AV} {G : GM} (hr : h[r]? = some (.mp (esG G) c s)) (hk : KeyOk P kt k G) (ht : mapTypes P t = some (kt, et)) (hz : zeroA P et = some (.int .i64 0)) :
    alookup0 P h t (.map (some r)) k false = some (.int .i64 (valG G k)) := by
  unfold alookup0
  simp only [ht, mapList, entriesAt, hr, Option.map_some, Option.bind_some, hk.ok, if_true, afind_G G 0 hk.eq, valG]
  cases fndG k G 0 with
  | none => simp [hz]
  | some x => simp

def setG (G : GM) (k : AV) (v : Int) (c : Nat) : GM := match fndG k G 0 with
  | some x => G.set x.1 (k, v, x.2.2)
  | none => G ++ [(k, v, c)]
def clkG (G : GM) (k : AV) (c : Nat) : Nat := match fndG k G 0 with
  | some _ => c
  | none => c + 1
def idG (G : GM) (k : AV) (c : Nat) : Nat := match fndG k G 0 with
  | some x => x.2.2
  | none => c
theorem esG_set (G : GM) (i : Nat) (g : AV × Int × Nat) : (esG G).set i (g.1, AV.int .i64 g.2.1, g.2.2) = esG (G.set i g) := by simp [esG, List.map_set]
theorem enter_G {h : AHeap} {t kt et : TypeId} {r c : Nat} {s : Bool} {k : AV} {G : GM} (hr : h[r]? = some (.mp (esG G) c s)) (hk : KeyOk P kt k G) (ht : mapTypes P t = some (kt, et)) (hz : zeroA P et = some (.int .i64 0)) :
    amapEntry0 P h t (.map (some r)) k = some (.tup [.int .i64 (valG G k), .int .i64 (idG G k c)], h.set r (.mp (esG (setG G k (valG G k) c)) (clkG G k c) false)) := by
  unfold amapEntry0 aenter
  simp only [ht, entriesAt, hr, hk.ok, if_true, Option.bind_some, afind_G G 0 hk.eq, hz, valG, idG, setG, clkG]
  cases hf : fndG k G 0 with
  | none => simp [esG]
  | some x =>
    obtain ⟨j, v, b⟩ := x
    obtain ⟨_, hj⟩ := fndG_at hf
    rw [Nat.sub_zero] at hj
    have hj' : (esG G)[j]? = some (k, .int .i64 v, b) := by simp [esG, hj]
    simp only [Option.map_some, Option.bind_some, hj', AV.beq_self, hk.fl, true_and, if_true]
    simp [← esG_set]

theorem fndG_none {k : AV} : ∀ {G : GM} {i : Nat}, fndG k G i = none → ∀ g ∈ G, g.1 ≠ k
  | [], _, _, g, hg => by simp at hg
  | a :: G, i, h, g, hg => by
    unfold fndG at h
    split at h
    · cases h
    · rename_i hb
      rcases List.mem_cons.1 hg with rfl | hg
      · rintro rfl; exact hb (AV.beq_self _)
      · exact fndG_none h g hg
theorem find_id {G : GM} {j : Nat} {k : AV} {v : Int} {b : Nat} (hp : G.Pairwise fun a b => a.2.2 ≠ b.2.2) (hj : G[j]? = some (k, v, b)) : (esG G).findIdx? (fun e => ((e.2.2 : Int) == (b : Int))) = some j := by
  rw [List.findIdx?_eq_some_iff_getElem]
  obtain ⟨hlt, he⟩ := List.getElem?_eq_some_iff.1 hj
  refine ⟨by simpa [esG] using hlt, by simp [esG, he], fun i hi => ?_⟩
  have := List.pairwise_iff_getElem.1 hp i j (by omega) hlt hi
  rw [he] at this
  have h2 : G[i].2.2 ≠ b := this
  simp [esG]
  omega
theorem store_G {h : AHeap} {r c : Nat} {s : Bool} {G : GM} {j : Nat} {k : AV} {v w : Int} {b : Nat} (hr : h[r]? = some (.mp (esG G) c s)) (hp : G.Pairwise fun a b => a.2.2 ≠ b.2.2) (hj : G[j]? = some (k, v, b)) :
    aentryStore0 h (.map (some r)) (.int .i64 b) (.int .i64 w) = some (h.set r (.mp (esG (G.set j (k, w, b))) c false)) := by
  unfold aentryStore0
  have hj' : (esG G)[j]? = some (k, .int .i64 v, b) := by simp [esG, hj]
  simp only [entriesAt, hr, find_id hp hj, Option.bind_some, hj', Option.map_some]
  rw [← esG_set]
theorem setG_at {G : GM} {k : AV} {v : Int} {c : Nat} : ∃ j, (setG G k v c)[j]? = some (k, v, idG G k c) ∧ ∀ w, (setG G k v c).set j (k, w, idG G k c) = setG G k w c := by
  unfold setG idG
  cases hf : fndG k G 0 with
  | none => exact ⟨G.length, by simp, fun w => by simp⟩
  | some x =>
    obtain ⟨j, u, b⟩ := x
    obtain ⟨_, hj⟩ := fndG_at hf
    rw [Nat.sub_zero] at hj
    have hlt := (List.getElem?_eq_some_iff.1 hj).1
    exact ⟨j, by simp [hlt], fun w => by simp [List.set_set]⟩
theorem esG_erase : ∀ (G : GM) (i : Nat), (esG G).eraseIdx i = esG (G.eraseIdx i)
  | [], i => by simp [esG]
  | g :: G, 0 => rfl
  | g :: G, i + 1 => by
    have := esG_erase G i
    simp only [esG, List.map_cons, List.eraseIdx_cons_succ] at this ⊢
    rw [this]
def delG (G : GM) (k : AV) : GM := match fndG k G 0 with
  | some x => G.eraseIdx x.1
  | none => G
theorem del_G {h : AHeap} {t kt et : TypeId} {r c : Nat} {s : Bool} {k : AV} {G : GM} (hr : h[r]? = some (.mp (esG G) c s)) (hk : KeyOk P kt k G) (ht : mapTypes P t = some (kt, et)) :
    adelete0 P h t (.map (some r)) k = some (h.set r (.mp (esG (delG G k)) c false)) := by
  unfold adelete0
  simp only [ht, hk.ok, if_true, entriesAt, hr, afind_G G 0 hk.eq, delG]
  cases hf : fndG k G 0 with
  | none => simp
  | some x => simp [esG_erase]

end Go.Abs
