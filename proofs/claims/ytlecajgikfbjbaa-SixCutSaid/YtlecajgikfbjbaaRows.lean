/-
  No cell of these rows narrows 'for every input' (looked for: loops, veiled, ifaces, maps, wideKeys, modest, calm, conditions, laid).
  DERIVED. THE GIVEN ROWS OF THIS SEAT. 4 by the template 'for every input the law returns true; each argument reads behind the call as it read before'; 0 by the template 'total and deterministic' (their statements: YtlecajgikfbjbaaTotals.lean).
  GIVEN WITH THE SEED: the statements are not yours to turn. If you find one false, say at which input.
  Laid BY PROGRAM, IN A SANDBOX (cutbox-rows.mjs): the forced cells as the released guide's own fill.sh prints them over the translation 6eb6ce939477e43b… (all of the seat's roots in one cut). By AI agents, Wed Nov 11 2026. No macro, syntax, notation, axiom, sorry.
-/
import Derived.Test.YtlecajgikfbjbaaChecked
import GoSem.Claim
import GoSem.ClaimJoined
import GoSem.ClaimMapViews
import Derived.JoinedTies
import Derived.KernelRfl
namespace Go.Proofs.Ytlecajgikfbjbaa
/- THE CELL 'sum', in the pinned program and in every row, IS THE sha256 OF THE DUMP (.gsa) THAT YtlecajgikfbjbaaProg.lean LOADS. Nothing in Lean hashes anything: it is a label: what it is worth is what the hold of that sum in a sandbox is worth. -/
noncomputable def Try.pinned : Pinned := { name := "ytlecajgikfbjbaa", sum := "6eb6ce939477e43ba950fd0f778def433065fa7ad77c427ca99193bd2f04bee1", checked := Try.checked }
namespace Rows
def none {H : Type} : Left H := { results := [], args := [] }

/-- 'bazaarlaw6.SixTells': WHATEVER THE INPUT: true; the input reads as it did. -/
def sixTellsSpec : ChangeSpec := { name := "sixTells", fn := fun _ => fun
  | [d1, d2, d3, d4, d5] => { results := [.lit (.bool true)], args := [d1, d2, d3, d4, d5] }
  | _ => none }
def sixTellsRow : OpenClaim := { program := "ytlecajgikfbjbaa", sum := "6eb6ce939477e43ba950fd0f778def433065fa7ad77c427ca99193bd2f04bee1", func := "bazaar/bazaarlaw6.SixTells", spec := "sixTells", apart := false }
def SixTellsSaid : Prop := sixTellsRow.holds Try.pinned (OpenSpec.ofChange sixTellsSpec)

/-- ITS FALSE NEIGHBOUR: 'it returns false'. Refute it at one input. -/
def sixTellsWrong : ChangeSpec := { name := "sixTells", fn := fun _ => fun
  | [d1, d2, d3, d4, d5] => { results := [.lit (.bool false)], args := [d1, d2, d3, d4, d5] }
  | _ => none }
def SixTellsWrongFalsely : Prop := sixTellsRow.holds Try.pinned (OpenSpec.ofChange sixTellsWrong)

/-- 'bazaarlaw6.SixMakes': WHATEVER THE INPUT: true; the input reads as it did. -/
def sixMakesSpec : ChangeSpec := { name := "sixMakes", fn := fun _ => fun
  | [d1, d2, d3] => { results := [.lit (.bool true)], args := [d1, d2, d3] }
  | _ => none }
def sixMakesRow : OpenClaim := { program := "ytlecajgikfbjbaa", sum := "6eb6ce939477e43ba950fd0f778def433065fa7ad77c427ca99193bd2f04bee1", func := "bazaar/bazaarlaw6.SixMakes", spec := "sixMakes", apart := false }
def SixMakesSaid : Prop := sixMakesRow.holds Try.pinned (OpenSpec.ofChange sixMakesSpec)

/-- ITS FALSE NEIGHBOUR: 'it returns false'. Refute it at one input. -/
def sixMakesWrong : ChangeSpec := { name := "sixMakes", fn := fun _ => fun
  | [d1, d2, d3] => { results := [.lit (.bool false)], args := [d1, d2, d3] }
  | _ => none }
def SixMakesWrongFalsely : Prop := sixMakesRow.holds Try.pinned (OpenSpec.ofChange sixMakesWrong)

/-- 'bazaarlaw6.SixReasons': WHATEVER THE INPUT: true; the input reads as it did. -/
def sixReasonsSpec : ChangeSpec := { name := "sixReasons", fn := fun _ => fun
  | [d1, d2] => { results := [.lit (.bool true)], args := [d1, d2] }
  | _ => none }
def sixReasonsRow : OpenClaim := { program := "ytlecajgikfbjbaa", sum := "6eb6ce939477e43ba950fd0f778def433065fa7ad77c427ca99193bd2f04bee1", func := "bazaar/bazaarlaw6.SixReasons", spec := "sixReasons", apart := false }
def SixReasonsSaid : Prop := sixReasonsRow.holds Try.pinned (OpenSpec.ofChange sixReasonsSpec)

/-- ITS FALSE NEIGHBOUR: 'it returns false'. Refute it at one input. -/
def sixReasonsWrong : ChangeSpec := { name := "sixReasons", fn := fun _ => fun
  | [d1, d2] => { results := [.lit (.bool false)], args := [d1, d2] }
  | _ => none }
def SixReasonsWrongFalsely : Prop := sixReasonsRow.holds Try.pinned (OpenSpec.ofChange sixReasonsWrong)

/-- 'bazaarlaw6.SixCut': WHATEVER THE INPUT: true; the input reads as it did. -/
def sixCutSpec : ChangeSpec := { name := "sixCut", fn := fun _ => fun
  | [d1, d2, d3, d4] => { results := [.lit (.bool true)], args := [d1, d2, d3, d4] }
  | _ => none }
def sixCutRow : OpenClaim := { program := "ytlecajgikfbjbaa", sum := "6eb6ce939477e43ba950fd0f778def433065fa7ad77c427ca99193bd2f04bee1", func := "bazaar/bazaarlaw6.SixCut", spec := "sixCut", apart := false }
def SixCutSaid : Prop := sixCutRow.holds Try.pinned (OpenSpec.ofChange sixCutSpec)

/-- ITS FALSE NEIGHBOUR: 'it returns false'. Refute it at one input. -/
def sixCutWrong : ChangeSpec := { name := "sixCut", fn := fun _ => fun
  | [d1, d2, d3, d4] => { results := [.lit (.bool false)], args := [d1, d2, d3, d4] }
  | _ => none }
def SixCutWrongFalsely : Prop := sixCutRow.holds Try.pinned (OpenSpec.ofChange sixCutWrong)

/- THE SECOND FORM. 'bulk': how many values and letters a reading holds, each counted each time it is reached (what is shared counts as often as it is met; a slice's spare places count too). A statement '..UptoSaid' is the law's where the arguments, and the package variables that the reading takes, are together of bulk at most 1048576: NARROWER than '..Said'. Prove '..Said' where nothing that the law and all that it calls make is longer than what came in: it says more and counts as full. Else prove '..UptoSaid'. A law counts once. -/
mutual
def uptoBulk {H : Type} : DataW H → Nat
  | .lit (.string bytes) => bytes.length + 1
  | .lit _ => 1
  | .nil => 1
  | .ptr d => uptoBulk d + 1
  | .slice elems spare => uptoBulkAll elems + uptoBulkAll spare + 1
  | .agg parts => uptoBulkAll parts + 1
  | .iface _ d => uptoBulk d + 1
  | .map entries => uptoBulkEntries entries + 1
  | .held _ => 1
def uptoBulkAll {H : Type} : List (DataW H) → Nat
  | [] => 0
  | d :: r => uptoBulk d + uptoBulkAll r
def uptoBulkEntries {H : Type} : List (Lit × DataW H) → Nat
  | [] => 0
  | x :: r => uptoBulkEntry x + uptoBulkEntries r
def uptoBulkEntry {H : Type} : Lit × DataW H → Nat
  | (.string bytes, d) => bytes.length + uptoBulk d + 1
  | (_, d) => uptoBulk d + 1
 end
def uptoSmall : (H : Type) → List (DataW H) → Bool := fun _ ds => decide (uptoBulkAll ds ≤ 1048576)
def OpenSpec.upto (s : _root_.Go.ChangeSpec) : _root_.Go.OpenSpec := { _root_.Go.OpenSpec.ofChange s with cond := some uptoSmall }

/-- 'bazaarlaw6.SixTells', WHERE WHAT IT READS IS OF BULK AT MOST 1048576: true; the input reads as it did. -/
def sixTellsUptoRow : OpenClaim := { program := "ytlecajgikfbjbaa", sum := "6eb6ce939477e43ba950fd0f778def433065fa7ad77c427ca99193bd2f04bee1", func := "bazaar/bazaarlaw6.SixTells", spec := "sixTells", apart := false, narrowed := true }
def SixTellsUptoSaid : Prop := sixTellsUptoRow.holds Try.pinned (OpenSpec.upto sixTellsSpec)

/-- 'bazaarlaw6.SixMakes', WHERE WHAT IT READS IS OF BULK AT MOST 1048576: true; the input reads as it did. -/
def sixMakesUptoRow : OpenClaim := { program := "ytlecajgikfbjbaa", sum := "6eb6ce939477e43ba950fd0f778def433065fa7ad77c427ca99193bd2f04bee1", func := "bazaar/bazaarlaw6.SixMakes", spec := "sixMakes", apart := false, narrowed := true }
def SixMakesUptoSaid : Prop := sixMakesUptoRow.holds Try.pinned (OpenSpec.upto sixMakesSpec)

/-- 'bazaarlaw6.SixReasons', WHERE WHAT IT READS IS OF BULK AT MOST 1048576: true; the input reads as it did. -/
def sixReasonsUptoRow : OpenClaim := { program := "ytlecajgikfbjbaa", sum := "6eb6ce939477e43ba950fd0f778def433065fa7ad77c427ca99193bd2f04bee1", func := "bazaar/bazaarlaw6.SixReasons", spec := "sixReasons", apart := false, narrowed := true }
def SixReasonsUptoSaid : Prop := sixReasonsUptoRow.holds Try.pinned (OpenSpec.upto sixReasonsSpec)

/-- 'bazaarlaw6.SixCut', WHERE WHAT IT READS IS OF BULK AT MOST 1048576: true; the input reads as it did. -/
def sixCutUptoRow : OpenClaim := { program := "ytlecajgikfbjbaa", sum := "6eb6ce939477e43ba950fd0f778def433065fa7ad77c427ca99193bd2f04bee1", func := "bazaar/bazaarlaw6.SixCut", spec := "sixCut", apart := false, narrowed := true }
def SixCutUptoSaid : Prop := sixCutUptoRow.holds Try.pinned (OpenSpec.upto sixCutSpec)

end Rows
end Go.Proofs.Ytlecajgikfbjbaa
