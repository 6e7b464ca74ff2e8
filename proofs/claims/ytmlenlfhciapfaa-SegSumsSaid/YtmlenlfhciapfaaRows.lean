/-
  No cell of these rows narrows 'for every input' (looked for: loops, veiled, ifaces, maps, wideKeys, modest, calm, conditions, laid).
  DERIVED. THE GIVEN ROWS OF THIS SEAT. 5 by the template 'for every input the law returns true; each argument reads behind the call as it read before'; 0 by the template 'total and deterministic' (their statements: YtmlenlfhciapfaaTotals.lean).
  GIVEN WITH THE SEED: the statements are not yours to turn. If you find one false, say at which input.
  Laid BY PROGRAM, IN A SANDBOX (cutbox-rows.mjs): the forced cells as the released guide's own fill.sh prints them over the translation 3886b64f12d3e2f9… (all of the seat's roots in one cut). By AI agents, Wed Nov 11 2026. No macro, syntax, notation, axiom, sorry.
-/
import Derived.Test.YtmlenlfhciapfaaChecked
import GoSem.Claim
import GoSem.ClaimJoined
import GoSem.ClaimMapViews
import Derived.JoinedTies
import Derived.KernelRfl
namespace Go.Proofs.Ytmlenlfhciapfaa
/- THE CELL 'sum', in the pinned program and in every row, IS THE sha256 OF THE DUMP (.gsa) THAT YtmlenlfhciapfaaProg.lean LOADS. Nothing in Lean hashes anything: it is a label: what it is worth is what the hold of that sum in a sandbox is worth. -/
noncomputable def Try.pinned : Pinned := { name := "ytmlenlfhciapfaa", sum := "3886b64f12d3e2f9554489ef4888fd6b3c47e3d4449cf0174ea79e931a26a0ab", checked := Try.checked }
namespace Rows
def none {H : Type} : Left H := { results := [], args := [] }

/-- 'bazaarlaw7.SegTells': WHATEVER THE INPUT: true; the input reads as it did. -/
def segTellsSpec : ChangeSpec := { name := "segTells", fn := fun _ => fun
  | [d1, d2, d3, d4, d5] => { results := [.lit (.bool true)], args := [d1, d2, d3, d4, d5] }
  | _ => none }
def segTellsRow : OpenClaim := { program := "ytmlenlfhciapfaa", sum := "3886b64f12d3e2f9554489ef4888fd6b3c47e3d4449cf0174ea79e931a26a0ab", func := "bazaar/bazaarlaw7.SegTells", spec := "segTells", unfollowed := true, recurses := true, apart := false }
def SegTellsSaid : Prop := segTellsRow.holds Try.pinned (OpenSpec.ofChange segTellsSpec)

/-- ITS FALSE NEIGHBOUR: 'it returns false'. Refute it at one input. -/
def segTellsWrong : ChangeSpec := { name := "segTells", fn := fun _ => fun
  | [d1, d2, d3, d4, d5] => { results := [.lit (.bool false)], args := [d1, d2, d3, d4, d5] }
  | _ => none }
def SegTellsWrongFalsely : Prop := segTellsRow.holds Try.pinned (OpenSpec.ofChange segTellsWrong)

/-- 'bazaarlaw7.SegGoes': WHATEVER THE INPUT: true; the input reads as it did. -/
def segGoesSpec : ChangeSpec := { name := "segGoes", fn := fun _ => fun
  | [d1, d2, d3, d4, d5, d6, d7] => { results := [.lit (.bool true)], args := [d1, d2, d3, d4, d5, d6, d7] }
  | _ => none }
def segGoesRow : OpenClaim := { program := "ytmlenlfhciapfaa", sum := "3886b64f12d3e2f9554489ef4888fd6b3c47e3d4449cf0174ea79e931a26a0ab", func := "bazaar/bazaarlaw7.SegGoes", spec := "segGoes", unfollowed := true, recurses := true, apart := false }
def SegGoesSaid : Prop := segGoesRow.holds Try.pinned (OpenSpec.ofChange segGoesSpec)

/-- ITS FALSE NEIGHBOUR: 'it returns false'. Refute it at one input. -/
def segGoesWrong : ChangeSpec := { name := "segGoes", fn := fun _ => fun
  | [d1, d2, d3, d4, d5, d6, d7] => { results := [.lit (.bool false)], args := [d1, d2, d3, d4, d5, d6, d7] }
  | _ => none }
def SegGoesWrongFalsely : Prop := segGoesRow.holds Try.pinned (OpenSpec.ofChange segGoesWrong)

/-- 'bazaarlaw7.SegReasons': WHATEVER THE INPUT: true; the input reads as it did. -/
def segReasonsSpec : ChangeSpec := { name := "segReasons", fn := fun _ => fun
  | [d1, d2] => { results := [.lit (.bool true)], args := [d1, d2] }
  | _ => none }
def segReasonsRow : OpenClaim := { program := "ytmlenlfhciapfaa", sum := "3886b64f12d3e2f9554489ef4888fd6b3c47e3d4449cf0174ea79e931a26a0ab", func := "bazaar/bazaarlaw7.SegReasons", spec := "segReasons", unfollowed := true, recurses := true, apart := false }
def SegReasonsSaid : Prop := segReasonsRow.holds Try.pinned (OpenSpec.ofChange segReasonsSpec)

/-- ITS FALSE NEIGHBOUR: 'it returns false'. Refute it at one input. -/
def segReasonsWrong : ChangeSpec := { name := "segReasons", fn := fun _ => fun
  | [d1, d2] => { results := [.lit (.bool false)], args := [d1, d2] }
  | _ => none }
def SegReasonsWrongFalsely : Prop := segReasonsRow.holds Try.pinned (OpenSpec.ofChange segReasonsWrong)

/-- 'bazaarlaw7.SegBack': WHATEVER THE INPUT: true; the input reads as it did. -/
def segBackSpec : ChangeSpec := { name := "segBack", fn := fun _ => fun
  | [d1, d2, d3, d4, d5] => { results := [.lit (.bool true)], args := [d1, d2, d3, d4, d5] }
  | _ => none }
def segBackRow : OpenClaim := { program := "ytmlenlfhciapfaa", sum := "3886b64f12d3e2f9554489ef4888fd6b3c47e3d4449cf0174ea79e931a26a0ab", func := "bazaar/bazaarlaw7.SegBack", spec := "segBack", unfollowed := true, recurses := true, apart := false }
def SegBackSaid : Prop := segBackRow.holds Try.pinned (OpenSpec.ofChange segBackSpec)

/-- ITS FALSE NEIGHBOUR: 'it returns false'. Refute it at one input. -/
def segBackWrong : ChangeSpec := { name := "segBack", fn := fun _ => fun
  | [d1, d2, d3, d4, d5] => { results := [.lit (.bool false)], args := [d1, d2, d3, d4, d5] }
  | _ => none }
def SegBackWrongFalsely : Prop := segBackRow.holds Try.pinned (OpenSpec.ofChange segBackWrong)

/-- 'bazaarlaw7.SegSums': WHATEVER THE INPUT: true; the input reads as it did. -/
def segSumsSpec : ChangeSpec := { name := "segSums", fn := fun _ => fun
  | [d1, d2, d3, d4, d5, d6, d7] => { results := [.lit (.bool true)], args := [d1, d2, d3, d4, d5, d6, d7] }
  | _ => none }
def segSumsRow : OpenClaim := { program := "ytmlenlfhciapfaa", sum := "3886b64f12d3e2f9554489ef4888fd6b3c47e3d4449cf0174ea79e931a26a0ab", func := "bazaar/bazaarlaw7.SegSums", spec := "segSums", unfollowed := true, recurses := true, apart := false }
def SegSumsSaid : Prop := segSumsRow.holds Try.pinned (OpenSpec.ofChange segSumsSpec)

/-- ITS FALSE NEIGHBOUR: 'it returns false'. Refute it at one input. -/
def segSumsWrong : ChangeSpec := { name := "segSums", fn := fun _ => fun
  | [d1, d2, d3, d4, d5, d6, d7] => { results := [.lit (.bool false)], args := [d1, d2, d3, d4, d5, d6, d7] }
  | _ => none }
def SegSumsWrongFalsely : Prop := segSumsRow.holds Try.pinned (OpenSpec.ofChange segSumsWrong)

/- THE SECOND FORM. 'bulk': how many values and letters a reading holds, each counted each time it is reached (what is shared counts as often as it is met; a slice's spare places count too). A statement '..UptoSaid' is the law's where the arguments, and the package variables that the reading takes, are together of bulk at most 1048576: NARROWER than '..Said'. Prove '..Said' where nothing that the law and all that it calls make is longer than what came in: it says more and counts as full. Else prove '..UptoSaid'. A law counts once. -/
mutual
def uptoBulk {H : Type} : DataW H → Nat
  | .lit (.string bytes) => bytes.length + 1
  | .lit _ => 1
  | .nil => 1
  | .ptr d => uptoBulk d + 1
  | .slice elems spare => uptoBulkAll elems + uptoBulkAll spare + 1
  | .agg parts => uptoBulkAll parts + 1
  | .iface _ d => uptoBulk d + 1
  | .map entries => uptoBulkEntries entries + 1
  | .held _ => 1
def uptoBulkAll {H : Type} : List (DataW H) → Nat
  | [] => 0
  | d :: r => uptoBulk d + uptoBulkAll r
def uptoBulkEntries {H : Type} : List (Lit × DataW H) → Nat
  | [] => 0
  | x :: r => uptoBulkEntry x + uptoBulkEntries r
def uptoBulkEntry {H : Type} : Lit × DataW H → Nat
  | (.string bytes, d) => bytes.length + uptoBulk d + 1
  | (_, d) => uptoBulk d + 1
 end
def uptoSmall : (H : Type) → List (DataW H) → Bool := fun _ ds => decide (uptoBulkAll ds ≤ 1048576)
def OpenSpec.upto (s : _root_.Go.ChangeSpec) : _root_.Go.OpenSpec := { _root_.Go.OpenSpec.ofChange s with cond := some uptoSmall }

/-- 'bazaarlaw7.SegTells', WHERE WHAT IT READS IS OF BULK AT MOST 1048576: true; the input reads as it did. -/
def segTellsUptoRow : OpenClaim := { program := "ytmlenlfhciapfaa", sum := "3886b64f12d3e2f9554489ef4888fd6b3c47e3d4449cf0174ea79e931a26a0ab", func := "bazaar/bazaarlaw7.SegTells", spec := "segTells", unfollowed := true, recurses := true, apart := false, narrowed := true }
def SegTellsUptoSaid : Prop := segTellsUptoRow.holds Try.pinned (OpenSpec.upto segTellsSpec)

/-- 'bazaarlaw7.SegGoes', WHERE WHAT IT READS IS OF BULK AT MOST 1048576: true; the input reads as it did. -/
def segGoesUptoRow : OpenClaim := { program := "ytmlenlfhciapfaa", sum := "3886b64f12d3e2f9554489ef4888fd6b3c47e3d4449cf0174ea79e931a26a0ab", func := "bazaar/bazaarlaw7.SegGoes", spec := "segGoes", unfollowed := true, recurses := true, apart := false, narrowed := true }
def SegGoesUptoSaid : Prop := segGoesUptoRow.holds Try.pinned (OpenSpec.upto segGoesSpec)

/-- 'bazaarlaw7.SegReasons', WHERE WHAT IT READS IS OF BULK AT MOST 1048576: true; the input reads as it did. -/
def segReasonsUptoRow : OpenClaim := { program := "ytmlenlfhciapfaa", sum := "3886b64f12d3e2f9554489ef4888fd6b3c47e3d4449cf0174ea79e931a26a0ab", func := "bazaar/bazaarlaw7.SegReasons", spec := "segReasons", unfollowed := true, recurses := true, apart := false, narrowed := true }
def SegReasonsUptoSaid : Prop := segReasonsUptoRow.holds Try.pinned (OpenSpec.upto segReasonsSpec)

/-- 'bazaarlaw7.SegBack', WHERE WHAT IT READS IS OF BULK AT MOST 1048576: true; the input reads as it did. -/
def segBackUptoRow : OpenClaim := { program := "ytmlenlfhciapfaa", sum := "3886b64f12d3e2f9554489ef4888fd6b3c47e3d4449cf0174ea79e931a26a0ab", func := "bazaar/bazaarlaw7.SegBack", spec := "segBack", unfollowed := true, recurses := true, apart := false, narrowed := true }
def SegBackUptoSaid : Prop := segBackUptoRow.holds Try.pinned (OpenSpec.upto segBackSpec)

/-- 'bazaarlaw7.SegSums', WHERE WHAT IT READS IS OF BULK AT MOST 1048576: true; the input reads as it did. -/
def segSumsUptoRow : OpenClaim := { program := "ytmlenlfhciapfaa", sum := "3886b64f12d3e2f9554489ef4888fd6b3c47e3d4449cf0174ea79e931a26a0ab", func := "bazaar/bazaarlaw7.SegSums", spec := "segSums", unfollowed := true, recurses := true, apart := false, narrowed := true }
def SegSumsUptoSaid : Prop := segSumsUptoRow.holds Try.pinned (OpenSpec.upto segSumsSpec)

end Rows
end Go.Proofs.Ytmlenlfhciapfaa
