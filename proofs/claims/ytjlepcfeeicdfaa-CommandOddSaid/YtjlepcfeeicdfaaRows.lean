/-
  No cell of these rows narrows 'for every input' (looked for: loops, veiled, ifaces, maps, wideKeys, modest, calm, conditions, laid).
  DERIVED. THE GIVEN ROWS OF THIS SEAT. 4 by the template 'for every input the law returns true; each argument reads behind the call as it read before'; 0 by the template 'total and deterministic' (their statements: YtjlepcfeeicdfaaTotals.lean).
  GIVEN WITH THE SEED: the statements are not yours to turn. If you find one false, say at which input.
  Laid BY PROGRAM, IN A SANDBOX (cutbox-rows.mjs): the forced cells as the released guide's own fill.sh prints them over the translation 63b1a658764f31b8… (all of the seat's roots in one cut). By AI agents, Wed Nov 11 2026. No macro, syntax, notation, axiom, sorry.
-/
import Derived.Test.YtjlepcfeeicdfaaChecked
import GoSem.Claim
import GoSem.ClaimJoined
import GoSem.ClaimMapViews
import Derived.JoinedTies
import Derived.KernelRfl
namespace Go.Proofs.Ytjlepcfeeicdfaa
/- THE CELL 'sum', in the pinned program and in every row, IS THE sha256 OF THE DUMP (.gsa) THAT YtjlepcfeeicdfaaProg.lean LOADS. Nothing in Lean hashes anything: it is a label: what it is worth is what the hold of that sum in a sandbox is worth. -/
noncomputable def Try.pinned : Pinned := { name := "ytjlepcfeeicdfaa", sum := "63b1a658764f31b8f1654c560085d0c027edacabf965b5706e91fd2c177f8792", checked := Try.checked }
namespace Rows
def none {H : Type} : Left H := { results := [], args := [] }

/-- 'bazaarlaw24.CommandTells': WHATEVER THE INPUT: true; the input reads as it did. -/
def commandTellsSpec : ChangeSpec := { name := "commandTells", fn := fun _ => fun
  | [d1, d2, d3] => { results := [.lit (.bool true)], args := [d1, d2, d3] }
  | _ => none }
def commandTellsRow : OpenClaim := { program := "ytjlepcfeeicdfaa", sum := "63b1a658764f31b8f1654c560085d0c027edacabf965b5706e91fd2c177f8792", func := "bazaar/bazaarlaw24.CommandTells", spec := "commandTells", unfollowed := true, recurses := true, apart := false }
def CommandTellsSaid : Prop := commandTellsRow.holds Try.pinned (OpenSpec.ofChange commandTellsSpec)

/-- ITS FALSE NEIGHBOUR: 'it returns false'. Refute it at one input. -/
def commandTellsWrong : ChangeSpec := { name := "commandTells", fn := fun _ => fun
  | [d1, d2, d3] => { results := [.lit (.bool false)], args := [d1, d2, d3] }
  | _ => none }
def CommandTellsWrongFalsely : Prop := commandTellsRow.holds Try.pinned (OpenSpec.ofChange commandTellsWrong)

/-- 'bazaarlaw24.CommandBack': WHATEVER THE INPUT: true; the input reads as it did. -/
def commandBackSpec : ChangeSpec := { name := "commandBack", fn := fun _ => fun
  | [d1, d2, d3] => { results := [.lit (.bool true)], args := [d1, d2, d3] }
  | _ => none }
def commandBackRow : OpenClaim := { program := "ytjlepcfeeicdfaa", sum := "63b1a658764f31b8f1654c560085d0c027edacabf965b5706e91fd2c177f8792", func := "bazaar/bazaarlaw24.CommandBack", spec := "commandBack", unfollowed := true, recurses := true, apart := false }
def CommandBackSaid : Prop := commandBackRow.holds Try.pinned (OpenSpec.ofChange commandBackSpec)

/-- ITS FALSE NEIGHBOUR: 'it returns false'. Refute it at one input. -/
def commandBackWrong : ChangeSpec := { name := "commandBack", fn := fun _ => fun
  | [d1, d2, d3] => { results := [.lit (.bool false)], args := [d1, d2, d3] }
  | _ => none }
def CommandBackWrongFalsely : Prop := commandBackRow.holds Try.pinned (OpenSpec.ofChange commandBackWrong)

/-- 'bazaarlaw24.CommandOdd': WHATEVER THE INPUT: true; the input reads as it did. -/
def commandOddSpec : ChangeSpec := { name := "commandOdd", fn := fun _ => fun
  | [d1, d2, d3, d4, d5] => { results := [.lit (.bool true)], args := [d1, d2, d3, d4, d5] }
  | _ => none }
def commandOddRow : OpenClaim := { program := "ytjlepcfeeicdfaa", sum := "63b1a658764f31b8f1654c560085d0c027edacabf965b5706e91fd2c177f8792", func := "bazaar/bazaarlaw24.CommandOdd", spec := "commandOdd", unfollowed := true, recurses := true, apart := false }
def CommandOddSaid : Prop := commandOddRow.holds Try.pinned (OpenSpec.ofChange commandOddSpec)

/-- ITS FALSE NEIGHBOUR: 'it returns false'. Refute it at one input. -/
def commandOddWrong : ChangeSpec := { name := "commandOdd", fn := fun _ => fun
  | [d1, d2, d3, d4, d5] => { results := [.lit (.bool false)], args := [d1, d2, d3, d4, d5] }
  | _ => none }
def CommandOddWrongFalsely : Prop := commandOddRow.holds Try.pinned (OpenSpec.ofChange commandOddWrong)

/-- 'bazaarlaw24.CommandKinds': WHATEVER THE INPUT: true; the input reads as it did. -/
def commandKindsSpec : ChangeSpec := { name := "commandKinds", fn := fun _ => fun
  | [d1, d2, d3, d4] => { results := [.lit (.bool true)], args := [d1, d2, d3, d4] }
  | _ => none }
def commandKindsRow : OpenClaim := { program := "ytjlepcfeeicdfaa", sum := "63b1a658764f31b8f1654c560085d0c027edacabf965b5706e91fd2c177f8792", func := "bazaar/bazaarlaw24.CommandKinds", spec := "commandKinds", unfollowed := true, recurses := true, apart := false }
def CommandKindsSaid : Prop := commandKindsRow.holds Try.pinned (OpenSpec.ofChange commandKindsSpec)

/-- ITS FALSE NEIGHBOUR: 'it returns false'. Refute it at one input. -/
def commandKindsWrong : ChangeSpec := { name := "commandKinds", fn := fun _ => fun
  | [d1, d2, d3, d4] => { results := [.lit (.bool false)], args := [d1, d2, d3, d4] }
  | _ => none }
def CommandKindsWrongFalsely : Prop := commandKindsRow.holds Try.pinned (OpenSpec.ofChange commandKindsWrong)

/- THE SECOND FORM. 'bulk': how many values and letters a reading holds, each counted each time it is reached (what is shared counts as often as it is met; a slice's spare places count too). A statement '..UptoSaid' is the law's where the arguments, and the package variables that the reading takes, are together of bulk at most 1048576: NARROWER than '..Said'. Prove '..Said' where nothing that the law and all that it calls make is longer than what came in: it says more and counts as full. Else prove '..UptoSaid'. A law counts once. -/
mutual
def uptoBulk {H : Type} : DataW H → Nat
  | .lit (.string bytes) => bytes.length + 1
  | .lit _ => 1
  | .nil => 1
  | .ptr d => uptoBulk d + 1
  | .slice elems spare => uptoBulkAll elems + uptoBulkAll spare + 1
  | .agg parts => uptoBulkAll parts + 1
  | .iface _ d => uptoBulk d + 1
  | .map entries => uptoBulkEntries entries + 1
  | .held _ => 1
def uptoBulkAll {H : Type} : List (DataW H) → Nat
  | [] => 0
  | d :: r => uptoBulk d + uptoBulkAll r
def uptoBulkEntries {H : Type} : List (Lit × DataW H) → Nat
  | [] => 0
  | x :: r => uptoBulkEntry x + uptoBulkEntries r
def uptoBulkEntry {H : Type} : Lit × DataW H → Nat
  | (.string bytes, d) => bytes.length + uptoBulk d + 1
  | (_, d) => uptoBulk d + 1
 end
def uptoSmall : (H : Type) → List (DataW H) → Bool := fun _ ds => decide (uptoBulkAll ds ≤ 1048576)
def OpenSpec.upto (s : _root_.Go.ChangeSpec) : _root_.Go.OpenSpec := { _root_.Go.OpenSpec.ofChange s with cond := some uptoSmall }

/-- 'bazaarlaw24.CommandTells', WHERE WHAT IT READS IS OF BULK AT MOST 1048576: true; the input reads as it did. -/
def commandTellsUptoRow : OpenClaim := { program := "ytjlepcfeeicdfaa", sum := "63b1a658764f31b8f1654c560085d0c027edacabf965b5706e91fd2c177f8792", func := "bazaar/bazaarlaw24.CommandTells", spec := "commandTells", unfollowed := true, recurses := true, apart := false, narrowed := true }
def CommandTellsUptoSaid : Prop := commandTellsUptoRow.holds Try.pinned (OpenSpec.upto commandTellsSpec)

/-- 'bazaarlaw24.CommandBack', WHERE WHAT IT READS IS OF BULK AT MOST 1048576: true; the input reads as it did. -/
def commandBackUptoRow : OpenClaim := { program := "ytjlepcfeeicdfaa", sum := "63b1a658764f31b8f1654c560085d0c027edacabf965b5706e91fd2c177f8792", func := "bazaar/bazaarlaw24.CommandBack", spec := "commandBack", unfollowed := true, recurses := true, apart := false, narrowed := true }
def CommandBackUptoSaid : Prop := commandBackUptoRow.holds Try.pinned (OpenSpec.upto commandBackSpec)

/-- 'bazaarlaw24.CommandOdd', WHERE WHAT IT READS IS OF BULK AT MOST 1048576: true; the input reads as it did. -/
def commandOddUptoRow : OpenClaim := { program := "ytjlepcfeeicdfaa", sum := "63b1a658764f31b8f1654c560085d0c027edacabf965b5706e91fd2c177f8792", func := "bazaar/bazaarlaw24.CommandOdd", spec := "commandOdd", unfollowed := true, recurses := true, apart := false, narrowed := true }
def CommandOddUptoSaid : Prop := commandOddUptoRow.holds Try.pinned (OpenSpec.upto commandOddSpec)

/-- 'bazaarlaw24.CommandKinds', WHERE WHAT IT READS IS OF BULK AT MOST 1048576: true; the input reads as it did. -/
def commandKindsUptoRow : OpenClaim := { program := "ytjlepcfeeicdfaa", sum := "63b1a658764f31b8f1654c560085d0c027edacabf965b5706e91fd2c177f8792", func := "bazaar/bazaarlaw24.CommandKinds", spec := "commandKinds", unfollowed := true, recurses := true, apart := false, narrowed := true }
def CommandKindsUptoSaid : Prop := commandKindsUptoRow.holds Try.pinned (OpenSpec.upto commandKindsSpec)

end Rows
end Go.Proofs.Ytjlepcfeeicdfaa
