/-
  No cell of these rows narrows 'for every input' (looked for: loops, veiled, ifaces, maps, wideKeys, modest, calm, conditions, laid).
  DERIVED. THE GIVEN ROWS OF THIS SEAT. 4 by the template 'for every input the law returns true; each argument reads behind the call as it read before'; 0 by the template 'total and deterministic' (their statements: YtmlmdbicbpicbaaTotals.lean).
  GIVEN WITH THE SEED: the statements are not yours to turn. If you find one false, say at which input.
  Laid BY PROGRAM, IN A SANDBOX (cutbox-rows.mjs): the forced cells as the released guide's own fill.sh prints them over the translation 4f686db60d34aeea… (all of the seat's roots in one cut). By AI agents, Wed Nov 11 2026. No macro, syntax, notation, axiom, sorry.
-/
import Derived.Test.YtmlmdbicbpicbaaChecked
import GoSem.Claim
import GoSem.ClaimJoined
import GoSem.ClaimMapViews
import Derived.JoinedTies
import Derived.KernelRfl
namespace Go.Proofs.Ytmlmdbicbpicbaa
/- THE CELL 'sum', in the pinned program and in every row, IS THE sha256 OF THE DUMP (.gsa) THAT YtmlmdbicbpicbaaProg.lean LOADS. Nothing in Lean hashes anything: it is a label: what it is worth is what the hold of that sum in a sandbox is worth. -/
noncomputable def Try.pinned : Pinned := { name := "ytmlmdbicbpicbaa", sum := "4f686db60d34aeea522afd56c76d2aeedfd092a59a77a240cf1ed715ff04fe16", checked := Try.checked }
namespace Rows
def none {H : Type} : Left H := { results := [], args := [] }

/-- 'bazaarlaw5.FourTells': WHATEVER THE INPUT: true; the input reads as it did. -/
def fourTellsSpec : ChangeSpec := { name := "fourTells", fn := fun _ => fun
  | [d1, d2, d3, d4, d5] => { results := [.lit (.bool true)], args := [d1, d2, d3, d4, d5] }
  | _ => none }
def fourTellsRow : OpenClaim := { program := "ytmlmdbicbpicbaa", sum := "4f686db60d34aeea522afd56c76d2aeedfd092a59a77a240cf1ed715ff04fe16", func := "bazaar/bazaarlaw5.FourTells", spec := "fourTells", unfollowed := true, recurses := true, apart := false }
def FourTellsSaid : Prop := fourTellsRow.holds Try.pinned (OpenSpec.ofChange fourTellsSpec)

/-- ITS FALSE NEIGHBOUR: 'it returns false'. Refute it at one input. -/
def fourTellsWrong : ChangeSpec := { name := "fourTells", fn := fun _ => fun
  | [d1, d2, d3, d4, d5] => { results := [.lit (.bool false)], args := [d1, d2, d3, d4, d5] }
  | _ => none }
def FourTellsWrongFalsely : Prop := fourTellsRow.holds Try.pinned (OpenSpec.ofChange fourTellsWrong)

/-- 'bazaarlaw5.FourDests': WHATEVER THE INPUT: true; the input reads as it did. -/
def fourDestsSpec : ChangeSpec := { name := "fourDests", fn := fun _ => fun
  | [d1, d2, d3] => { results := [.lit (.bool true)], args := [d1, d2, d3] }
  | _ => none }
def fourDestsRow : OpenClaim := { program := "ytmlmdbicbpicbaa", sum := "4f686db60d34aeea522afd56c76d2aeedfd092a59a77a240cf1ed715ff04fe16", func := "bazaar/bazaarlaw5.FourDests", spec := "fourDests", unfollowed := true, recurses := true, apart := false }
def FourDestsSaid : Prop := fourDestsRow.holds Try.pinned (OpenSpec.ofChange fourDestsSpec)

/-- ITS FALSE NEIGHBOUR: 'it returns false'. Refute it at one input. -/
def fourDestsWrong : ChangeSpec := { name := "fourDests", fn := fun _ => fun
  | [d1, d2, d3] => { results := [.lit (.bool false)], args := [d1, d2, d3] }
  | _ => none }
def FourDestsWrongFalsely : Prop := fourDestsRow.holds Try.pinned (OpenSpec.ofChange fourDestsWrong)

/-- 'bazaarlaw5.FourReasons': WHATEVER THE INPUT: true; the input reads as it did. -/
def fourReasonsSpec : ChangeSpec := { name := "fourReasons", fn := fun _ => fun
  | [d1, d2] => { results := [.lit (.bool true)], args := [d1, d2] }
  | _ => none }
def fourReasonsRow : OpenClaim := { program := "ytmlmdbicbpicbaa", sum := "4f686db60d34aeea522afd56c76d2aeedfd092a59a77a240cf1ed715ff04fe16", func := "bazaar/bazaarlaw5.FourReasons", spec := "fourReasons", unfollowed := true, recurses := true, apart := false }
def FourReasonsSaid : Prop := fourReasonsRow.holds Try.pinned (OpenSpec.ofChange fourReasonsSpec)

/-- ITS FALSE NEIGHBOUR: 'it returns false'. Refute it at one input. -/
def fourReasonsWrong : ChangeSpec := { name := "fourReasons", fn := fun _ => fun
  | [d1, d2] => { results := [.lit (.bool false)], args := [d1, d2] }
  | _ => none }
def FourReasonsWrongFalsely : Prop := fourReasonsRow.holds Try.pinned (OpenSpec.ofChange fourReasonsWrong)

/-- 'bazaarlaw5.FourOptions': WHATEVER THE INPUT: true; the input reads as it did. -/
def fourOptionsSpec : ChangeSpec := { name := "fourOptions", fn := fun _ => fun
  | [d1, d2, d3, d4] => { results := [.lit (.bool true)], args := [d1, d2, d3, d4] }
  | _ => none }
def fourOptionsRow : OpenClaim := { program := "ytmlmdbicbpicbaa", sum := "4f686db60d34aeea522afd56c76d2aeedfd092a59a77a240cf1ed715ff04fe16", func := "bazaar/bazaarlaw5.FourOptions", spec := "fourOptions", unfollowed := true, recurses := true, apart := false }
def FourOptionsSaid : Prop := fourOptionsRow.holds Try.pinned (OpenSpec.ofChange fourOptionsSpec)

/-- ITS FALSE NEIGHBOUR: 'it returns false'. Refute it at one input. -/
def fourOptionsWrong : ChangeSpec := { name := "fourOptions", fn := fun _ => fun
  | [d1, d2, d3, d4] => { results := [.lit (.bool false)], args := [d1, d2, d3, d4] }
  | _ => none }
def FourOptionsWrongFalsely : Prop := fourOptionsRow.holds Try.pinned (OpenSpec.ofChange fourOptionsWrong)

/- THE SECOND FORM. 'bulk': how many values and letters a reading holds, each counted each time it is reached (what is shared counts as often as it is met; a slice's spare places count too). A statement '..UptoSaid' is the law's where the arguments, and the package variables that the reading takes, are together of bulk at most 1048576: NARROWER than '..Said'. Prove '..Said' where nothing that the law and all that it calls make is longer than what came in: it says more and counts as full. Else prove '..UptoSaid'. A law counts once. -/
mutual
def uptoBulk {H : Type} : DataW H → Nat
  | .lit (.string bytes) => bytes.length + 1
  | .lit _ => 1
  | .nil => 1
  | .ptr d => uptoBulk d + 1
  | .slice elems spare => uptoBulkAll elems + uptoBulkAll spare + 1
  | .agg parts => uptoBulkAll parts + 1
  | .iface _ d => uptoBulk d + 1
  | .map entries => uptoBulkEntries entries + 1
  | .held _ => 1
def uptoBulkAll {H : Type} : List (DataW H) → Nat
  | [] => 0
  | d :: r => uptoBulk d + uptoBulkAll r
def uptoBulkEntries {H : Type} : List (Lit × DataW H) → Nat
  | [] => 0
  | x :: r => uptoBulkEntry x + uptoBulkEntries r
def uptoBulkEntry {H : Type} : Lit × DataW H → Nat
  | (.string bytes, d) => bytes.length + uptoBulk d + 1
  | (_, d) => uptoBulk d + 1
 end
def uptoSmall : (H : Type) → List (DataW H) → Bool := fun _ ds => decide (uptoBulkAll ds ≤ 1048576)
def OpenSpec.upto (s : _root_.Go.ChangeSpec) : _root_.Go.OpenSpec := { _root_.Go.OpenSpec.ofChange s with cond := some uptoSmall }

/-- 'bazaarlaw5.FourTells', WHERE WHAT IT READS IS OF BULK AT MOST 1048576: true; the input reads as it did. -/
def fourTellsUptoRow : OpenClaim := { program := "ytmlmdbicbpicbaa", sum := "4f686db60d34aeea522afd56c76d2aeedfd092a59a77a240cf1ed715ff04fe16", func := "bazaar/bazaarlaw5.FourTells", spec := "fourTells", unfollowed := true, recurses := true, apart := false, narrowed := true }
def FourTellsUptoSaid : Prop := fourTellsUptoRow.holds Try.pinned (OpenSpec.upto fourTellsSpec)

/-- 'bazaarlaw5.FourDests', WHERE WHAT IT READS IS OF BULK AT MOST 1048576: true; the input reads as it did. -/
def fourDestsUptoRow : OpenClaim := { program := "ytmlmdbicbpicbaa", sum := "4f686db60d34aeea522afd56c76d2aeedfd092a59a77a240cf1ed715ff04fe16", func := "bazaar/bazaarlaw5.FourDests", spec := "fourDests", unfollowed := true, recurses := true, apart := false, narrowed := true }
def FourDestsUptoSaid : Prop := fourDestsUptoRow.holds Try.pinned (OpenSpec.upto fourDestsSpec)

/-- 'bazaarlaw5.FourReasons', WHERE WHAT IT READS IS OF BULK AT MOST 1048576: true; the input reads as it did. -/
def fourReasonsUptoRow : OpenClaim := { program := "ytmlmdbicbpicbaa", sum := "4f686db60d34aeea522afd56c76d2aeedfd092a59a77a240cf1ed715ff04fe16", func := "bazaar/bazaarlaw5.FourReasons", spec := "fourReasons", unfollowed := true, recurses := true, apart := false, narrowed := true }
def FourReasonsUptoSaid : Prop := fourReasonsUptoRow.holds Try.pinned (OpenSpec.upto fourReasonsSpec)

/-- 'bazaarlaw5.FourOptions', WHERE WHAT IT READS IS OF BULK AT MOST 1048576: true; the input reads as it did. -/
def fourOptionsUptoRow : OpenClaim := { program := "ytmlmdbicbpicbaa", sum := "4f686db60d34aeea522afd56c76d2aeedfd092a59a77a240cf1ed715ff04fe16", func := "bazaar/bazaarlaw5.FourOptions", spec := "fourOptions", unfollowed := true, recurses := true, apart := false, narrowed := true }
def FourOptionsUptoSaid : Prop := fourOptionsUptoRow.holds Try.pinned (OpenSpec.upto fourOptionsSpec)

end Rows
end Go.Proofs.Ytmlmdbicbpicbaa
