/-
  No cell of these rows narrows 'for every input' (looked for: loops, veiled, ifaces, maps, wideKeys, modest, calm, conditions, laid).
  DERIVED. THE GIVEN ROWS OF THIS SEAT. 5 by the template 'for every input the law returns true; each argument reads behind the call as it read before'; 0 by the template 'total and deterministic' (their statements: YtlppbeoiphglcaaTotals.lean).
  GIVEN WITH THE SEED: the statements are not yours to turn. If you find one false, say at which input.
  Laid BY PROGRAM, IN A SANDBOX (cutbox-rows.mjs): the forced cells as the released guide's own fill.sh prints them over the translation f13305ebb7e63e17… (all of the seat's roots in one cut). By AI agents, Wed Nov 11 2026. No macro, syntax, notation, axiom, sorry.
-/
import Derived.Test.YtlppbeoiphglcaaChecked
import GoSem.Claim
import GoSem.ClaimJoined
import GoSem.ClaimMapViews
import Derived.JoinedTies
import Derived.KernelRfl
namespace Go.Proofs.Ytlppbeoiphglcaa
/- THE CELL 'sum', in the pinned program and in every row, IS THE sha256 OF THE DUMP (.gsa) THAT YtlppbeoiphglcaaProg.lean LOADS. Nothing in Lean hashes anything: it is a label: what it is worth is what the hold of that sum in a sandbox is worth. -/
noncomputable def Try.pinned : Pinned := { name := "ytlppbeoiphglcaa", sum := "f13305ebb7e63e17eadceb8061ccdcf8d93bd96a184eba714659e8ff490dc455", checked := Try.checked }
namespace Rows
def none {H : Type} : Left H := { results := [], args := [] }

/-- 'bazaarlaw17.SlotsTells': WHATEVER THE INPUT: true; the input reads as it did. -/
def slotsTellsSpec : ChangeSpec := { name := "slotsTells", fn := fun _ => fun
  | [d1, d2, d3] => { results := [.lit (.bool true)], args := [d1, d2, d3] }
  | _ => none }
def slotsTellsRow : OpenClaim := { program := "ytlppbeoiphglcaa", sum := "f13305ebb7e63e17eadceb8061ccdcf8d93bd96a184eba714659e8ff490dc455", func := "bazaar/bazaarlaw17.SlotsTells", spec := "slotsTells", unfollowed := true, recurses := true, plainKeys := false, apart := false }
def SlotsTellsSaid : Prop := slotsTellsRow.holds Try.pinned (OpenSpec.ofChange slotsTellsSpec)

/-- ITS FALSE NEIGHBOUR: 'it returns false'. Refute it at one input. -/
def slotsTellsWrong : ChangeSpec := { name := "slotsTells", fn := fun _ => fun
  | [d1, d2, d3] => { results := [.lit (.bool false)], args := [d1, d2, d3] }
  | _ => none }
def SlotsTellsWrongFalsely : Prop := slotsTellsRow.holds Try.pinned (OpenSpec.ofChange slotsTellsWrong)

/-- 'bazaarlaw17.SlotsShares': WHATEVER THE INPUT: true; the input reads as it did. -/
def slotsSharesSpec : ChangeSpec := { name := "slotsShares", fn := fun _ => fun
  | [d1, d2] => { results := [.lit (.bool true)], args := [d1, d2] }
  | _ => none }
def slotsSharesRow : OpenClaim := { program := "ytlppbeoiphglcaa", sum := "f13305ebb7e63e17eadceb8061ccdcf8d93bd96a184eba714659e8ff490dc455", func := "bazaar/bazaarlaw17.SlotsShares", spec := "slotsShares", unfollowed := true, recurses := true, plainKeys := false, apart := false }
def SlotsSharesSaid : Prop := slotsSharesRow.holds Try.pinned (OpenSpec.ofChange slotsSharesSpec)

/-- ITS FALSE NEIGHBOUR: 'it returns false'. Refute it at one input. -/
def slotsSharesWrong : ChangeSpec := { name := "slotsShares", fn := fun _ => fun
  | [d1, d2] => { results := [.lit (.bool false)], args := [d1, d2] }
  | _ => none }
def SlotsSharesWrongFalsely : Prop := slotsSharesRow.holds Try.pinned (OpenSpec.ofChange slotsSharesWrong)

/-- 'bazaarlaw17.SlotsStay': WHATEVER THE INPUT: true; the input reads as it did. -/
def slotsStaySpec : ChangeSpec := { name := "slotsStay", fn := fun _ => fun
  | [d1, d2, d3, d4] => { results := [.lit (.bool true)], args := [d1, d2, d3, d4] }
  | _ => none }
def slotsStayRow : OpenClaim := { program := "ytlppbeoiphglcaa", sum := "f13305ebb7e63e17eadceb8061ccdcf8d93bd96a184eba714659e8ff490dc455", func := "bazaar/bazaarlaw17.SlotsStay", spec := "slotsStay", unfollowed := true, recurses := true, plainKeys := false, apart := false }
def SlotsStaySaid : Prop := slotsStayRow.holds Try.pinned (OpenSpec.ofChange slotsStaySpec)

/-- ITS FALSE NEIGHBOUR: 'it returns false'. Refute it at one input. -/
def slotsStayWrong : ChangeSpec := { name := "slotsStay", fn := fun _ => fun
  | [d1, d2, d3, d4] => { results := [.lit (.bool false)], args := [d1, d2, d3, d4] }
  | _ => none }
def SlotsStayWrongFalsely : Prop := slotsStayRow.holds Try.pinned (OpenSpec.ofChange slotsStayWrong)

/-- 'bazaarlaw17.SlotsSame': WHATEVER THE INPUT: true; the input reads as it did. -/
def slotsSameSpec : ChangeSpec := { name := "slotsSame", fn := fun _ => fun
  | [d1, d2] => { results := [.lit (.bool true)], args := [d1, d2] }
  | _ => none }
def slotsSameRow : OpenClaim := { program := "ytlppbeoiphglcaa", sum := "f13305ebb7e63e17eadceb8061ccdcf8d93bd96a184eba714659e8ff490dc455", func := "bazaar/bazaarlaw17.SlotsSame", spec := "slotsSame", unfollowed := true, recurses := true, plainKeys := false, apart := false }
def SlotsSameSaid : Prop := slotsSameRow.holds Try.pinned (OpenSpec.ofChange slotsSameSpec)

/-- ITS FALSE NEIGHBOUR: 'it returns false'. Refute it at one input. -/
def slotsSameWrong : ChangeSpec := { name := "slotsSame", fn := fun _ => fun
  | [d1, d2] => { results := [.lit (.bool false)], args := [d1, d2] }
  | _ => none }
def SlotsSameWrongFalsely : Prop := slotsSameRow.holds Try.pinned (OpenSpec.ofChange slotsSameWrong)

/-- 'bazaarlaw17.SlotsOut': WHATEVER THE INPUT: true; the input reads as it did. -/
def slotsOutSpec : ChangeSpec := { name := "slotsOut", fn := fun _ => fun
  | [d1, d2, d3] => { results := [.lit (.bool true)], args := [d1, d2, d3] }
  | _ => none }
def slotsOutRow : OpenClaim := { program := "ytlppbeoiphglcaa", sum := "f13305ebb7e63e17eadceb8061ccdcf8d93bd96a184eba714659e8ff490dc455", func := "bazaar/bazaarlaw17.SlotsOut", spec := "slotsOut", unfollowed := true, recurses := true, plainKeys := false, apart := false }
def SlotsOutSaid : Prop := slotsOutRow.holds Try.pinned (OpenSpec.ofChange slotsOutSpec)

/-- ITS FALSE NEIGHBOUR: 'it returns false'. Refute it at one input. -/
def slotsOutWrong : ChangeSpec := { name := "slotsOut", fn := fun _ => fun
  | [d1, d2, d3] => { results := [.lit (.bool false)], args := [d1, d2, d3] }
  | _ => none }
def SlotsOutWrongFalsely : Prop := slotsOutRow.holds Try.pinned (OpenSpec.ofChange slotsOutWrong)

/- THE SECOND FORM. 'bulk': how many values and letters a reading holds, each counted each time it is reached (what is shared counts as often as it is met; a slice's spare places count too). A statement '..UptoSaid' is the law's where the arguments, and the package variables that the reading takes, are together of bulk at most 1048576: NARROWER than '..Said'. Prove '..Said' where nothing that the law and all that it calls make is longer than what came in: it says more and counts as full. Else prove '..UptoSaid'. A law counts once. -/
mutual
def uptoBulk {H : Type} : DataW H → Nat
  | .lit (.string bytes) => bytes.length + 1
  | .lit _ => 1
  | .nil => 1
  | .ptr d => uptoBulk d + 1
  | .slice elems spare => uptoBulkAll elems + uptoBulkAll spare + 1
  | .agg parts => uptoBulkAll parts + 1
  | .iface _ d => uptoBulk d + 1
  | .map entries => uptoBulkEntries entries + 1
  | .held _ => 1
def uptoBulkAll {H : Type} : List (DataW H) → Nat
  | [] => 0
  | d :: r => uptoBulk d + uptoBulkAll r
def uptoBulkEntries {H : Type} : List (Lit × DataW H) → Nat
  | [] => 0
  | x :: r => uptoBulkEntry x + uptoBulkEntries r
def uptoBulkEntry {H : Type} : Lit × DataW H → Nat
  | (.string bytes, d) => bytes.length + uptoBulk d + 1
  | (_, d) => uptoBulk d + 1
 end
def uptoSmall : (H : Type) → List (DataW H) → Bool := fun _ ds => decide (uptoBulkAll ds ≤ 1048576)
def OpenSpec.upto (s : _root_.Go.ChangeSpec) : _root_.Go.OpenSpec := { _root_.Go.OpenSpec.ofChange s with cond := some uptoSmall }

/-- 'bazaarlaw17.SlotsTells', WHERE WHAT IT READS IS OF BULK AT MOST 1048576: true; the input reads as it did. -/
def slotsTellsUptoRow : OpenClaim := { program := "ytlppbeoiphglcaa", sum := "f13305ebb7e63e17eadceb8061ccdcf8d93bd96a184eba714659e8ff490dc455", func := "bazaar/bazaarlaw17.SlotsTells", spec := "slotsTells", unfollowed := true, recurses := true, plainKeys := false, apart := false, narrowed := true }
def SlotsTellsUptoSaid : Prop := slotsTellsUptoRow.holds Try.pinned (OpenSpec.upto slotsTellsSpec)

/-- 'bazaarlaw17.SlotsShares', WHERE WHAT IT READS IS OF BULK AT MOST 1048576: true; the input reads as it did. -/
def slotsSharesUptoRow : OpenClaim := { program := "ytlppbeoiphglcaa", sum := "f13305ebb7e63e17eadceb8061ccdcf8d93bd96a184eba714659e8ff490dc455", func := "bazaar/bazaarlaw17.SlotsShares", spec := "slotsShares", unfollowed := true, recurses := true, plainKeys := false, apart := false, narrowed := true }
def SlotsSharesUptoSaid : Prop := slotsSharesUptoRow.holds Try.pinned (OpenSpec.upto slotsSharesSpec)

/-- 'bazaarlaw17.SlotsStay', WHERE WHAT IT READS IS OF BULK AT MOST 1048576: true; the input reads as it did. -/
def slotsStayUptoRow : OpenClaim := { program := "ytlppbeoiphglcaa", sum := "f13305ebb7e63e17eadceb8061ccdcf8d93bd96a184eba714659e8ff490dc455", func := "bazaar/bazaarlaw17.SlotsStay", spec := "slotsStay", unfollowed := true, recurses := true, plainKeys := false, apart := false, narrowed := true }
def SlotsStayUptoSaid : Prop := slotsStayUptoRow.holds Try.pinned (OpenSpec.upto slotsStaySpec)

/-- 'bazaarlaw17.SlotsSame', WHERE WHAT IT READS IS OF BULK AT MOST 1048576: true; the input reads as it did. -/
def slotsSameUptoRow : OpenClaim := { program := "ytlppbeoiphglcaa", sum := "f13305ebb7e63e17eadceb8061ccdcf8d93bd96a184eba714659e8ff490dc455", func := "bazaar/bazaarlaw17.SlotsSame", spec := "slotsSame", unfollowed := true, recurses := true, plainKeys := false, apart := false, narrowed := true }
def SlotsSameUptoSaid : Prop := slotsSameUptoRow.holds Try.pinned (OpenSpec.upto slotsSameSpec)

/-- 'bazaarlaw17.SlotsOut', WHERE WHAT IT READS IS OF BULK AT MOST 1048576: true; the input reads as it did. -/
def slotsOutUptoRow : OpenClaim := { program := "ytlppbeoiphglcaa", sum := "f13305ebb7e63e17eadceb8061ccdcf8d93bd96a184eba714659e8ff490dc455", func := "bazaar/bazaarlaw17.SlotsOut", spec := "slotsOut", unfollowed := true, recurses := true, plainKeys := false, apart := false, narrowed := true }
def SlotsOutUptoSaid : Prop := slotsOutUptoRow.holds Try.pinned (OpenSpec.upto slotsOutSpec)

end Rows
end Go.Proofs.Ytlppbeoiphglcaa
