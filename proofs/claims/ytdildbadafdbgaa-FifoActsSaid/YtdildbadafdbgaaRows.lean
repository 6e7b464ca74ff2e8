/-
  No cell of these rows narrows 'for every input' (looked for: loops, veiled, ifaces, maps, wideKeys, modest, calm, conditions, laid).
  DERIVED. THE GIVEN ROWS OF THIS SEAT. 4 by the template 'for every input the law returns true; each argument reads behind the call as it read before'; 0 by the template 'total and deterministic' (their statements: YtdildbadafdbgaaTotals.lean).
  GIVEN WITH THE SEED: the statements are not yours to turn. If you find one false, say at which input.
  Laid BY PROGRAM, IN A SANDBOX (cutbox-rows.mjs): the forced cells as the released guide's own fill.sh prints them over the translation c2761cc63f82eb5d… (all of the seat's roots in one cut). By AI agents, Wed Nov 11 2026. No macro, syntax, notation, axiom, sorry.
-/
import Derived.Test.YtdildbadafdbgaaChecked
import GoSem.Claim
import GoSem.ClaimJoined
import GoSem.ClaimMapViews
import Derived.JoinedTies
import Derived.KernelRfl
namespace Go.Proofs.Ytdildbadafdbgaa
/- THE CELL 'sum', in the pinned program and in every row, IS THE sha256 OF THE DUMP (.gsa) THAT YtdildbadafdbgaaProg.lean LOADS. Nothing in Lean hashes anything: it is a label: what it is worth is what the hold of that sum in a sandbox is worth. -/
noncomputable def Try.pinned : Pinned := { name := "ytdildbadafdbgaa", sum := "c2761cc63f82eb5d9c8696154418b64443901128c6cfb75d8da24d3645889ead", checked := Try.checked }
namespace Rows
def none {H : Type} : Left H := { results := [], args := [] }

/-- 'bazaarlaw20.FifoKinds': WHATEVER THE INPUT: true; the input reads as it did. -/
def fifoKindsSpec : ChangeSpec := { name := "fifoKinds", fn := fun _ => fun
  | [d1, d2] => { results := [.lit (.bool true)], args := [d1, d2] }
  | _ => none }
def fifoKindsRow : OpenClaim := { program := "ytdildbadafdbgaa", sum := "c2761cc63f82eb5d9c8696154418b64443901128c6cfb75d8da24d3645889ead", func := "bazaar/bazaarlaw20.FifoKinds", spec := "fifoKinds", unfollowed := true, recurses := true, apart := false }
def FifoKindsSaid : Prop := fifoKindsRow.holds Try.pinned (OpenSpec.ofChange fifoKindsSpec)

/-- ITS FALSE NEIGHBOUR: 'it returns false'. Refute it at one input. -/
def fifoKindsWrong : ChangeSpec := { name := "fifoKinds", fn := fun _ => fun
  | [d1, d2] => { results := [.lit (.bool false)], args := [d1, d2] }
  | _ => none }
def FifoKindsWrongFalsely : Prop := fifoKindsRow.holds Try.pinned (OpenSpec.ofChange fifoKindsWrong)

/-- 'bazaarlaw20.FifoNumbers': WHATEVER THE INPUT: true; the input reads as it did. -/
def fifoNumbersSpec : ChangeSpec := { name := "fifoNumbers", fn := fun _ => fun
  | [d1, d2, d3] => { results := [.lit (.bool true)], args := [d1, d2, d3] }
  | _ => none }
def fifoNumbersRow : OpenClaim := { program := "ytdildbadafdbgaa", sum := "c2761cc63f82eb5d9c8696154418b64443901128c6cfb75d8da24d3645889ead", func := "bazaar/bazaarlaw20.FifoNumbers", spec := "fifoNumbers", unfollowed := true, recurses := true, apart := false }
def FifoNumbersSaid : Prop := fifoNumbersRow.holds Try.pinned (OpenSpec.ofChange fifoNumbersSpec)

/-- ITS FALSE NEIGHBOUR: 'it returns false'. Refute it at one input. -/
def fifoNumbersWrong : ChangeSpec := { name := "fifoNumbers", fn := fun _ => fun
  | [d1, d2, d3] => { results := [.lit (.bool false)], args := [d1, d2, d3] }
  | _ => none }
def FifoNumbersWrongFalsely : Prop := fifoNumbersRow.holds Try.pinned (OpenSpec.ofChange fifoNumbersWrong)

/-- 'bazaarlaw20.FifoActs': WHATEVER THE INPUT: true; the input reads as it did. -/
def fifoActsSpec : ChangeSpec := { name := "fifoActs", fn := fun _ => fun
  | [d1, d2] => { results := [.lit (.bool true)], args := [d1, d2] }
  | _ => none }
def fifoActsRow : OpenClaim := { program := "ytdildbadafdbgaa", sum := "c2761cc63f82eb5d9c8696154418b64443901128c6cfb75d8da24d3645889ead", func := "bazaar/bazaarlaw20.FifoActs", spec := "fifoActs", unfollowed := true, recurses := true, apart := false }
def FifoActsSaid : Prop := fifoActsRow.holds Try.pinned (OpenSpec.ofChange fifoActsSpec)

/-- ITS FALSE NEIGHBOUR: 'it returns false'. Refute it at one input. -/
def fifoActsWrong : ChangeSpec := { name := "fifoActs", fn := fun _ => fun
  | [d1, d2] => { results := [.lit (.bool false)], args := [d1, d2] }
  | _ => none }
def FifoActsWrongFalsely : Prop := fifoActsRow.holds Try.pinned (OpenSpec.ofChange fifoActsWrong)

/-- 'bazaarlaw20.FifoWalks': WHATEVER THE INPUT: true; the input reads as it did. -/
def fifoWalksSpec : ChangeSpec := { name := "fifoWalks", fn := fun _ => fun
  | [d1, d2] => { results := [.lit (.bool true)], args := [d1, d2] }
  | _ => none }
def fifoWalksRow : OpenClaim := { program := "ytdildbadafdbgaa", sum := "c2761cc63f82eb5d9c8696154418b64443901128c6cfb75d8da24d3645889ead", func := "bazaar/bazaarlaw20.FifoWalks", spec := "fifoWalks", unfollowed := true, recurses := true, apart := false }
def FifoWalksSaid : Prop := fifoWalksRow.holds Try.pinned (OpenSpec.ofChange fifoWalksSpec)

/-- ITS FALSE NEIGHBOUR: 'it returns false'. Refute it at one input. -/
def fifoWalksWrong : ChangeSpec := { name := "fifoWalks", fn := fun _ => fun
  | [d1, d2] => { results := [.lit (.bool false)], args := [d1, d2] }
  | _ => none }
def FifoWalksWrongFalsely : Prop := fifoWalksRow.holds Try.pinned (OpenSpec.ofChange fifoWalksWrong)

/- THE SECOND FORM. 'bulk': how many values and letters a reading holds, each counted each time it is reached (what is shared counts as often as it is met; a slice's spare places count too). A statement '..UptoSaid' is the law's where the arguments, and the package variables that the reading takes, are together of bulk at most 1048576: NARROWER than '..Said'. Prove '..Said' where nothing that the law and all that it calls make is longer than what came in: it says more and counts as full. Else prove '..UptoSaid'. A law counts once. -/
mutual
def uptoBulk {H : Type} : DataW H → Nat
  | .lit (.string bytes) => bytes.length + 1
  | .lit _ => 1
  | .nil => 1
  | .ptr d => uptoBulk d + 1
  | .slice elems spare => uptoBulkAll elems + uptoBulkAll spare + 1
  | .agg parts => uptoBulkAll parts + 1
  | .iface _ d => uptoBulk d + 1
  | .map entries => uptoBulkEntries entries + 1
  | .held _ => 1
def uptoBulkAll {H : Type} : List (DataW H) → Nat
  | [] => 0
  | d :: r => uptoBulk d + uptoBulkAll r
def uptoBulkEntries {H : Type} : List (Lit × DataW H) → Nat
  | [] => 0
  | x :: r => uptoBulkEntry x + uptoBulkEntries r
def uptoBulkEntry {H : Type} : Lit × DataW H → Nat
  | (.string bytes, d) => bytes.length + uptoBulk d + 1
  | (_, d) => uptoBulk d + 1
 end
def uptoSmall : (H : Type) → List (DataW H) → Bool := fun _ ds => decide (uptoBulkAll ds ≤ 1048576)
def OpenSpec.upto (s : _root_.Go.ChangeSpec) : _root_.Go.OpenSpec := { _root_.Go.OpenSpec.ofChange s with cond := some uptoSmall }

/-- 'bazaarlaw20.FifoKinds', WHERE WHAT IT READS IS OF BULK AT MOST 1048576: true; the input reads as it did. -/
def fifoKindsUptoRow : OpenClaim := { program := "ytdildbadafdbgaa", sum := "c2761cc63f82eb5d9c8696154418b64443901128c6cfb75d8da24d3645889ead", func := "bazaar/bazaarlaw20.FifoKinds", spec := "fifoKinds", unfollowed := true, recurses := true, apart := false, narrowed := true }
def FifoKindsUptoSaid : Prop := fifoKindsUptoRow.holds Try.pinned (OpenSpec.upto fifoKindsSpec)

/-- 'bazaarlaw20.FifoNumbers', WHERE WHAT IT READS IS OF BULK AT MOST 1048576: true; the input reads as it did. -/
def fifoNumbersUptoRow : OpenClaim := { program := "ytdildbadafdbgaa", sum := "c2761cc63f82eb5d9c8696154418b64443901128c6cfb75d8da24d3645889ead", func := "bazaar/bazaarlaw20.FifoNumbers", spec := "fifoNumbers", unfollowed := true, recurses := true, apart := false, narrowed := true }
def FifoNumbersUptoSaid : Prop := fifoNumbersUptoRow.holds Try.pinned (OpenSpec.upto fifoNumbersSpec)

/-- 'bazaarlaw20.FifoActs', WHERE WHAT IT READS IS OF BULK AT MOST 1048576: true; the input reads as it did. -/
def fifoActsUptoRow : OpenClaim := { program := "ytdildbadafdbgaa", sum := "c2761cc63f82eb5d9c8696154418b64443901128c6cfb75d8da24d3645889ead", func := "bazaar/bazaarlaw20.FifoActs", spec := "fifoActs", unfollowed := true, recurses := true, apart := false, narrowed := true }
def FifoActsUptoSaid : Prop := fifoActsUptoRow.holds Try.pinned (OpenSpec.upto fifoActsSpec)

/-- 'bazaarlaw20.FifoWalks', WHERE WHAT IT READS IS OF BULK AT MOST 1048576: true; the input reads as it did. -/
def fifoWalksUptoRow : OpenClaim := { program := "ytdildbadafdbgaa", sum := "c2761cc63f82eb5d9c8696154418b64443901128c6cfb75d8da24d3645889ead", func := "bazaar/bazaarlaw20.FifoWalks", spec := "fifoWalks", unfollowed := true, recurses := true, apart := false, narrowed := true }
def FifoWalksUptoSaid : Prop := fifoWalksUptoRow.holds Try.pinned (OpenSpec.upto fifoWalksSpec)

end Rows
end Go.Proofs.Ytdildbadafdbgaa
