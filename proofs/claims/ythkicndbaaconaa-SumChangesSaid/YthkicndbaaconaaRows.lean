/-
  No cell of these rows narrows 'for every input' (looked for: loops, veiled, ifaces, maps, wideKeys, modest, calm, conditions, laid).
  DERIVED. THE GIVEN ROWS OF THIS SEAT. 6 by the template 'for every input the law returns true; each argument reads behind the call as it read before'; 0 by the template 'total and deterministic' (their statements: YthkicndbaaconaaTotals.lean).
  GIVEN WITH THE SEED: the statements are not yours to turn. If you find one false, say at which input.
  Laid BY PROGRAM, IN A SANDBOX (cutbox-rows.mjs): the forced cells as the released guide's own fill.sh prints them over the translation 27927cc6921135b7… (all of the seat's roots in one cut). By AI agents, Wed Nov 11 2026. No macro, syntax, notation, axiom, sorry.
-/
import Derived.Test.YthkicndbaaconaaChecked
import GoSem.Claim
import GoSem.ClaimJoined
import GoSem.ClaimMapViews
import Derived.JoinedTies
import Derived.KernelRfl
namespace Go.Proofs.Ythkicndbaaconaa
/- THE CELL 'sum', in the pinned program and in every row, IS THE sha256 OF THE DUMP (.gsa) THAT YthkicndbaaconaaProg.lean LOADS. Nothing in Lean hashes anything: it is a label: what it is worth is what the hold of that sum in a sandbox is worth. -/
noncomputable def Try.pinned : Pinned := { name := "ythkicndbaaconaa", sum := "27927cc6921135b723c32db99dcc31cdba7b91468e660735a3234d32976aa4e6", checked := Try.checked }
namespace Rows
def none {H : Type} : Left H := { results := [], args := [] }

/-- 'bazaarlaw3.SumTells': WHATEVER THE INPUT: true; the input reads as it did. -/
def sumTellsSpec : ChangeSpec := { name := "sumTells", fn := fun _ => fun
  | [d1, d2, d3, d4, d5] => { results := [.lit (.bool true)], args := [d1, d2, d3, d4, d5] }
  | _ => none }
def sumTellsRow : OpenClaim := { program := "ythkicndbaaconaa", sum := "27927cc6921135b723c32db99dcc31cdba7b91468e660735a3234d32976aa4e6", func := "bazaar/bazaarlaw3.SumTells", spec := "sumTells", unfollowed := true, recurses := true, apart := false }
def SumTellsSaid : Prop := sumTellsRow.holds Try.pinned (OpenSpec.ofChange sumTellsSpec)

/-- ITS FALSE NEIGHBOUR: 'it returns false'. Refute it at one input. -/
def sumTellsWrong : ChangeSpec := { name := "sumTells", fn := fun _ => fun
  | [d1, d2, d3, d4, d5] => { results := [.lit (.bool false)], args := [d1, d2, d3, d4, d5] }
  | _ => none }
def SumTellsWrongFalsely : Prop := sumTellsRow.holds Try.pinned (OpenSpec.ofChange sumTellsWrong)

/-- 'bazaarlaw3.SumChanges': WHATEVER THE INPUT: true; the input reads as it did. -/
def sumChangesSpec : ChangeSpec := { name := "sumChanges", fn := fun _ => fun
  | [d1, d2, d3] => { results := [.lit (.bool true)], args := [d1, d2, d3] }
  | _ => none }
def sumChangesRow : OpenClaim := { program := "ythkicndbaaconaa", sum := "27927cc6921135b723c32db99dcc31cdba7b91468e660735a3234d32976aa4e6", func := "bazaar/bazaarlaw3.SumChanges", spec := "sumChanges", unfollowed := true, recurses := true, apart := false }
def SumChangesSaid : Prop := sumChangesRow.holds Try.pinned (OpenSpec.ofChange sumChangesSpec)

/-- ITS FALSE NEIGHBOUR: 'it returns false'. Refute it at one input. -/
def sumChangesWrong : ChangeSpec := { name := "sumChanges", fn := fun _ => fun
  | [d1, d2, d3] => { results := [.lit (.bool false)], args := [d1, d2, d3] }
  | _ => none }
def SumChangesWrongFalsely : Prop := sumChangesRow.holds Try.pinned (OpenSpec.ofChange sumChangesWrong)

/-- 'bazaarlaw3.SumZero': WHATEVER THE INPUT: true; the input reads as it did. -/
def sumZeroSpec : ChangeSpec := { name := "sumZero", fn := fun _ => fun
  | [d1, d2, d3] => { results := [.lit (.bool true)], args := [d1, d2, d3] }
  | _ => none }
def sumZeroRow : OpenClaim := { program := "ythkicndbaaconaa", sum := "27927cc6921135b723c32db99dcc31cdba7b91468e660735a3234d32976aa4e6", func := "bazaar/bazaarlaw3.SumZero", spec := "sumZero", unfollowed := true, recurses := true, apart := false }
def SumZeroSaid : Prop := sumZeroRow.holds Try.pinned (OpenSpec.ofChange sumZeroSpec)

/-- ITS FALSE NEIGHBOUR: 'it returns false'. Refute it at one input. -/
def sumZeroWrong : ChangeSpec := { name := "sumZero", fn := fun _ => fun
  | [d1, d2, d3] => { results := [.lit (.bool false)], args := [d1, d2, d3] }
  | _ => none }
def SumZeroWrongFalsely : Prop := sumZeroRow.holds Try.pinned (OpenSpec.ofChange sumZeroWrong)

/-- 'bazaarlaw3.SumParts': WHATEVER THE INPUT: true; the input reads as it did. -/
def sumPartsSpec : ChangeSpec := { name := "sumParts", fn := fun _ => fun
  | [d1, d2, d3] => { results := [.lit (.bool true)], args := [d1, d2, d3] }
  | _ => none }
def sumPartsRow : OpenClaim := { program := "ythkicndbaaconaa", sum := "27927cc6921135b723c32db99dcc31cdba7b91468e660735a3234d32976aa4e6", func := "bazaar/bazaarlaw3.SumParts", spec := "sumParts", unfollowed := true, recurses := true, apart := false }
def SumPartsSaid : Prop := sumPartsRow.holds Try.pinned (OpenSpec.ofChange sumPartsSpec)

/-- ITS FALSE NEIGHBOUR: 'it returns false'. Refute it at one input. -/
def sumPartsWrong : ChangeSpec := { name := "sumParts", fn := fun _ => fun
  | [d1, d2, d3] => { results := [.lit (.bool false)], args := [d1, d2, d3] }
  | _ => none }
def SumPartsWrongFalsely : Prop := sumPartsRow.holds Try.pinned (OpenSpec.ofChange sumPartsWrong)

/-- 'bazaarlaw3.SumBits': WHATEVER THE INPUT: true; the input reads as it did. -/
def sumBitsSpec : ChangeSpec := { name := "sumBits", fn := fun _ => fun
  | [d1, d2, d3] => { results := [.lit (.bool true)], args := [d1, d2, d3] }
  | _ => none }
def sumBitsRow : OpenClaim := { program := "ythkicndbaaconaa", sum := "27927cc6921135b723c32db99dcc31cdba7b91468e660735a3234d32976aa4e6", func := "bazaar/bazaarlaw3.SumBits", spec := "sumBits", unfollowed := true, recurses := true, apart := false }
def SumBitsSaid : Prop := sumBitsRow.holds Try.pinned (OpenSpec.ofChange sumBitsSpec)

/-- ITS FALSE NEIGHBOUR: 'it returns false'. Refute it at one input. -/
def sumBitsWrong : ChangeSpec := { name := "sumBits", fn := fun _ => fun
  | [d1, d2, d3] => { results := [.lit (.bool false)], args := [d1, d2, d3] }
  | _ => none }
def SumBitsWrongFalsely : Prop := sumBitsRow.holds Try.pinned (OpenSpec.ofChange sumBitsWrong)

/-- 'bazaarlaw3.SumOrder': WHATEVER THE INPUT: true; the input reads as it did. -/
def sumOrderSpec : ChangeSpec := { name := "sumOrder", fn := fun _ => fun
  | [d1, d2, d3, d4, d5] => { results := [.lit (.bool true)], args := [d1, d2, d3, d4, d5] }
  | _ => none }
def sumOrderRow : OpenClaim := { program := "ythkicndbaaconaa", sum := "27927cc6921135b723c32db99dcc31cdba7b91468e660735a3234d32976aa4e6", func := "bazaar/bazaarlaw3.SumOrder", spec := "sumOrder", unfollowed := true, recurses := true, apart := false }
def SumOrderSaid : Prop := sumOrderRow.holds Try.pinned (OpenSpec.ofChange sumOrderSpec)

/-- ITS FALSE NEIGHBOUR: 'it returns false'. Refute it at one input. -/
def sumOrderWrong : ChangeSpec := { name := "sumOrder", fn := fun _ => fun
  | [d1, d2, d3, d4, d5] => { results := [.lit (.bool false)], args := [d1, d2, d3, d4, d5] }
  | _ => none }
def SumOrderWrongFalsely : Prop := sumOrderRow.holds Try.pinned (OpenSpec.ofChange sumOrderWrong)

/- THE SECOND FORM. 'bulk': how many values and letters a reading holds, each counted each time it is reached (what is shared counts as often as it is met; a slice's spare places count too). A statement '..UptoSaid' is the law's where the arguments, and the package variables that the reading takes, are together of bulk at most 1048576: NARROWER than '..Said'. Prove '..Said' where nothing that the law and all that it calls make is longer than what came in: it says more and counts as full. Else prove '..UptoSaid'. A law counts once. -/
mutual
def uptoBulk {H : Type} : DataW H → Nat
  | .lit (.string bytes) => bytes.length + 1
  | .lit _ => 1
  | .nil => 1
  | .ptr d => uptoBulk d + 1
  | .slice elems spare => uptoBulkAll elems + uptoBulkAll spare + 1
  | .agg parts => uptoBulkAll parts + 1
  | .iface _ d => uptoBulk d + 1
  | .map entries => uptoBulkEntries entries + 1
  | .held _ => 1
def uptoBulkAll {H : Type} : List (DataW H) → Nat
  | [] => 0
  | d :: r => uptoBulk d + uptoBulkAll r
def uptoBulkEntries {H : Type} : List (Lit × DataW H) → Nat
  | [] => 0
  | x :: r => uptoBulkEntry x + uptoBulkEntries r
def uptoBulkEntry {H : Type} : Lit × DataW H → Nat
  | (.string bytes, d) => bytes.length + uptoBulk d + 1
  | (_, d) => uptoBulk d + 1
 end
def uptoSmall : (H : Type) → List (DataW H) → Bool := fun _ ds => decide (uptoBulkAll ds ≤ 1048576)
def OpenSpec.upto (s : _root_.Go.ChangeSpec) : _root_.Go.OpenSpec := { _root_.Go.OpenSpec.ofChange s with cond := some uptoSmall }

/-- 'bazaarlaw3.SumTells', WHERE WHAT IT READS IS OF BULK AT MOST 1048576: true; the input reads as it did. -/
def sumTellsUptoRow : OpenClaim := { program := "ythkicndbaaconaa", sum := "27927cc6921135b723c32db99dcc31cdba7b91468e660735a3234d32976aa4e6", func := "bazaar/bazaarlaw3.SumTells", spec := "sumTells", unfollowed := true, recurses := true, apart := false, narrowed := true }
def SumTellsUptoSaid : Prop := sumTellsUptoRow.holds Try.pinned (OpenSpec.upto sumTellsSpec)

/-- 'bazaarlaw3.SumChanges', WHERE WHAT IT READS IS OF BULK AT MOST 1048576: true; the input reads as it did. -/
def sumChangesUptoRow : OpenClaim := { program := "ythkicndbaaconaa", sum := "27927cc6921135b723c32db99dcc31cdba7b91468e660735a3234d32976aa4e6", func := "bazaar/bazaarlaw3.SumChanges", spec := "sumChanges", unfollowed := true, recurses := true, apart := false, narrowed := true }
def SumChangesUptoSaid : Prop := sumChangesUptoRow.holds Try.pinned (OpenSpec.upto sumChangesSpec)

/-- 'bazaarlaw3.SumZero', WHERE WHAT IT READS IS OF BULK AT MOST 1048576: true; the input reads as it did. -/
def sumZeroUptoRow : OpenClaim := { program := "ythkicndbaaconaa", sum := "27927cc6921135b723c32db99dcc31cdba7b91468e660735a3234d32976aa4e6", func := "bazaar/bazaarlaw3.SumZero", spec := "sumZero", unfollowed := true, recurses := true, apart := false, narrowed := true }
def SumZeroUptoSaid : Prop := sumZeroUptoRow.holds Try.pinned (OpenSpec.upto sumZeroSpec)

/-- 'bazaarlaw3.SumParts', WHERE WHAT IT READS IS OF BULK AT MOST 1048576: true; the input reads as it did. -/
def sumPartsUptoRow : OpenClaim := { program := "ythkicndbaaconaa", sum := "27927cc6921135b723c32db99dcc31cdba7b91468e660735a3234d32976aa4e6", func := "bazaar/bazaarlaw3.SumParts", spec := "sumParts", unfollowed := true, recurses := true, apart := false, narrowed := true }
def SumPartsUptoSaid : Prop := sumPartsUptoRow.holds Try.pinned (OpenSpec.upto sumPartsSpec)

/-- 'bazaarlaw3.SumBits', WHERE WHAT IT READS IS OF BULK AT MOST 1048576: true; the input reads as it did. -/
def sumBitsUptoRow : OpenClaim := { program := "ythkicndbaaconaa", sum := "27927cc6921135b723c32db99dcc31cdba7b91468e660735a3234d32976aa4e6", func := "bazaar/bazaarlaw3.SumBits", spec := "sumBits", unfollowed := true, recurses := true, apart := false, narrowed := true }
def SumBitsUptoSaid : Prop := sumBitsUptoRow.holds Try.pinned (OpenSpec.upto sumBitsSpec)

/-- 'bazaarlaw3.SumOrder', WHERE WHAT IT READS IS OF BULK AT MOST 1048576: true; the input reads as it did. -/
def sumOrderUptoRow : OpenClaim := { program := "ythkicndbaaconaa", sum := "27927cc6921135b723c32db99dcc31cdba7b91468e660735a3234d32976aa4e6", func := "bazaar/bazaarlaw3.SumOrder", spec := "sumOrder", unfollowed := true, recurses := true, apart := false, narrowed := true }
def SumOrderUptoSaid : Prop := sumOrderUptoRow.holds Try.pinned (OpenSpec.upto sumOrderSpec)

end Rows
end Go.Proofs.Ythkicndbaaconaa
