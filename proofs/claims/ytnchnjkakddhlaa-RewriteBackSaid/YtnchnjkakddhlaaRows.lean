/-
  No cell of these rows narrows 'for every input' (looked for: loops, veiled, ifaces, maps, wideKeys, modest, calm, conditions, laid).
  DERIVED. THE GIVEN ROWS OF THIS SEAT. 4 by the template 'for every input the law returns true; each argument reads behind the call as it read before'; 0 by the template 'total and deterministic' (their statements: YtnchnjkakddhlaaTotals.lean).
  GIVEN WITH THE SEED: the statements are not yours to turn. If you find one false, say at which input.
  Laid BY PROGRAM, IN A SANDBOX (cutbox-rows.mjs): the forced cells as the released guide's own fill.sh prints them over the translation 12bf1aa788c63191… (all of the seat's roots in one cut). By AI agents, Wed Nov 11 2026. No macro, syntax, notation, axiom, sorry.
-/
import Derived.Test.YtnchnjkakddhlaaChecked
import GoSem.Claim
import GoSem.ClaimJoined
import GoSem.ClaimMapViews
import Derived.JoinedTies
import Derived.KernelRfl
namespace Go.Proofs.Ytnchnjkakddhlaa
/- THE CELL 'sum', in the pinned program and in every row, IS THE sha256 OF THE DUMP (.gsa) THAT YtnchnjkakddhlaaProg.lean LOADS. Nothing in Lean hashes anything: it is a label: what it is worth is what the hold of that sum in a sandbox is worth. -/
noncomputable def Try.pinned : Pinned := { name := "ytnchnjkakddhlaa", sum := "12bf1aa788c63191e9e76c476d6b6a7c5419fda50beefae77c51dccef709451c", checked := Try.checked }
namespace Rows
def none {H : Type} : Left H := { results := [], args := [] }

/-- 'bazaarlaw9.RewriteTells': WHATEVER THE INPUT: true; the input reads as it did. -/
def rewriteTellsSpec : ChangeSpec := { name := "rewriteTells", fn := fun _ => fun
  | [d1, d2, d3] => { results := [.lit (.bool true)], args := [d1, d2, d3] }
  | _ => none }
def rewriteTellsRow : OpenClaim := { program := "ytnchnjkakddhlaa", sum := "12bf1aa788c63191e9e76c476d6b6a7c5419fda50beefae77c51dccef709451c", func := "bazaar/bazaarlaw9.RewriteTells", spec := "rewriteTells", unfollowed := true, recurses := true, apart := false }
def RewriteTellsSaid : Prop := rewriteTellsRow.holds Try.pinned (OpenSpec.ofChange rewriteTellsSpec)

/-- ITS FALSE NEIGHBOUR: 'it returns false'. Refute it at one input. -/
def rewriteTellsWrong : ChangeSpec := { name := "rewriteTells", fn := fun _ => fun
  | [d1, d2, d3] => { results := [.lit (.bool false)], args := [d1, d2, d3] }
  | _ => none }
def RewriteTellsWrongFalsely : Prop := rewriteTellsRow.holds Try.pinned (OpenSpec.ofChange rewriteTellsWrong)

/-- 'bazaarlaw9.RewriteGoes': WHATEVER THE INPUT: true; the input reads as it did. -/
def rewriteGoesSpec : ChangeSpec := { name := "rewriteGoes", fn := fun _ => fun
  | [d1, d2, d3, d4, d5, d6, d7, d8, d9, d10] => { results := [.lit (.bool true)], args := [d1, d2, d3, d4, d5, d6, d7, d8, d9, d10] }
  | _ => none }
def rewriteGoesRow : OpenClaim := { program := "ytnchnjkakddhlaa", sum := "12bf1aa788c63191e9e76c476d6b6a7c5419fda50beefae77c51dccef709451c", func := "bazaar/bazaarlaw9.RewriteGoes", spec := "rewriteGoes", unfollowed := true, recurses := true, apart := false }
def RewriteGoesSaid : Prop := rewriteGoesRow.holds Try.pinned (OpenSpec.ofChange rewriteGoesSpec)

/-- ITS FALSE NEIGHBOUR: 'it returns false'. Refute it at one input. -/
def rewriteGoesWrong : ChangeSpec := { name := "rewriteGoes", fn := fun _ => fun
  | [d1, d2, d3, d4, d5, d6, d7, d8, d9, d10] => { results := [.lit (.bool false)], args := [d1, d2, d3, d4, d5, d6, d7, d8, d9, d10] }
  | _ => none }
def RewriteGoesWrongFalsely : Prop := rewriteGoesRow.holds Try.pinned (OpenSpec.ofChange rewriteGoesWrong)

/-- 'bazaarlaw9.RewriteBack': WHATEVER THE INPUT: true; the input reads as it did. -/
def rewriteBackSpec : ChangeSpec := { name := "rewriteBack", fn := fun _ => fun
  | [d1, d2, d3, d4, d5, d6] => { results := [.lit (.bool true)], args := [d1, d2, d3, d4, d5, d6] }
  | _ => none }
def rewriteBackRow : OpenClaim := { program := "ytnchnjkakddhlaa", sum := "12bf1aa788c63191e9e76c476d6b6a7c5419fda50beefae77c51dccef709451c", func := "bazaar/bazaarlaw9.RewriteBack", spec := "rewriteBack", unfollowed := true, recurses := true, apart := false }
def RewriteBackSaid : Prop := rewriteBackRow.holds Try.pinned (OpenSpec.ofChange rewriteBackSpec)

/-- ITS FALSE NEIGHBOUR: 'it returns false'. Refute it at one input. -/
def rewriteBackWrong : ChangeSpec := { name := "rewriteBack", fn := fun _ => fun
  | [d1, d2, d3, d4, d5, d6] => { results := [.lit (.bool false)], args := [d1, d2, d3, d4, d5, d6] }
  | _ => none }
def RewriteBackWrongFalsely : Prop := rewriteBackRow.holds Try.pinned (OpenSpec.ofChange rewriteBackWrong)

/-- 'bazaarlaw9.RewriteDiffers': WHATEVER THE INPUT: true; the input reads as it did. -/
def rewriteDiffersSpec : ChangeSpec := { name := "rewriteDiffers", fn := fun _ => fun
  | [d1, d2, d3] => { results := [.lit (.bool true)], args := [d1, d2, d3] }
  | _ => none }
def rewriteDiffersRow : OpenClaim := { program := "ytnchnjkakddhlaa", sum := "12bf1aa788c63191e9e76c476d6b6a7c5419fda50beefae77c51dccef709451c", func := "bazaar/bazaarlaw9.RewriteDiffers", spec := "rewriteDiffers", unfollowed := true, recurses := true, apart := false }
def RewriteDiffersSaid : Prop := rewriteDiffersRow.holds Try.pinned (OpenSpec.ofChange rewriteDiffersSpec)

/-- ITS FALSE NEIGHBOUR: 'it returns false'. Refute it at one input. -/
def rewriteDiffersWrong : ChangeSpec := { name := "rewriteDiffers", fn := fun _ => fun
  | [d1, d2, d3] => { results := [.lit (.bool false)], args := [d1, d2, d3] }
  | _ => none }
def RewriteDiffersWrongFalsely : Prop := rewriteDiffersRow.holds Try.pinned (OpenSpec.ofChange rewriteDiffersWrong)

/- THE SECOND FORM. 'bulk': how many values and letters a reading holds, each counted each time it is reached (what is shared counts as often as it is met; a slice's spare places count too). A statement '..UptoSaid' is the law's where the arguments, and the package variables that the reading takes, are together of bulk at most 1048576: NARROWER than '..Said'. Prove '..Said' where nothing that the law and all that it calls make is longer than what came in: it says more and counts as full. Else prove '..UptoSaid'. A law counts once. -/
mutual
def uptoBulk {H : Type} : DataW H → Nat
  | .lit (.string bytes) => bytes.length + 1
  | .lit _ => 1
  | .nil => 1
  | .ptr d => uptoBulk d + 1
  | .slice elems spare => uptoBulkAll elems + uptoBulkAll spare + 1
  | .agg parts => uptoBulkAll parts + 1
  | .iface _ d => uptoBulk d + 1
  | .map entries => uptoBulkEntries entries + 1
  | .held _ => 1
def uptoBulkAll {H : Type} : List (DataW H) → Nat
  | [] => 0
  | d :: r => uptoBulk d + uptoBulkAll r
def uptoBulkEntries {H : Type} : List (Lit × DataW H) → Nat
  | [] => 0
  | x :: r => uptoBulkEntry x + uptoBulkEntries r
def uptoBulkEntry {H : Type} : Lit × DataW H → Nat
  | (.string bytes, d) => bytes.length + uptoBulk d + 1
  | (_, d) => uptoBulk d + 1
 end
def uptoSmall : (H : Type) → List (DataW H) → Bool := fun _ ds => decide (uptoBulkAll ds ≤ 1048576)
def OpenSpec.upto (s : _root_.Go.ChangeSpec) : _root_.Go.OpenSpec := { _root_.Go.OpenSpec.ofChange s with cond := some uptoSmall }

/-- 'bazaarlaw9.RewriteTells', WHERE WHAT IT READS IS OF BULK AT MOST 1048576: true; the input reads as it did. -/
def rewriteTellsUptoRow : OpenClaim := { program := "ytnchnjkakddhlaa", sum := "12bf1aa788c63191e9e76c476d6b6a7c5419fda50beefae77c51dccef709451c", func := "bazaar/bazaarlaw9.RewriteTells", spec := "rewriteTells", unfollowed := true, recurses := true, apart := false, narrowed := true }
def RewriteTellsUptoSaid : Prop := rewriteTellsUptoRow.holds Try.pinned (OpenSpec.upto rewriteTellsSpec)

/-- 'bazaarlaw9.RewriteGoes', WHERE WHAT IT READS IS OF BULK AT MOST 1048576: true; the input reads as it did. -/
def rewriteGoesUptoRow : OpenClaim := { program := "ytnchnjkakddhlaa", sum := "12bf1aa788c63191e9e76c476d6b6a7c5419fda50beefae77c51dccef709451c", func := "bazaar/bazaarlaw9.RewriteGoes", spec := "rewriteGoes", unfollowed := true, recurses := true, apart := false, narrowed := true }
def RewriteGoesUptoSaid : Prop := rewriteGoesUptoRow.holds Try.pinned (OpenSpec.upto rewriteGoesSpec)

/-- 'bazaarlaw9.RewriteBack', WHERE WHAT IT READS IS OF BULK AT MOST 1048576: true; the input reads as it did. -/
def rewriteBackUptoRow : OpenClaim := { program := "ytnchnjkakddhlaa", sum := "12bf1aa788c63191e9e76c476d6b6a7c5419fda50beefae77c51dccef709451c", func := "bazaar/bazaarlaw9.RewriteBack", spec := "rewriteBack", unfollowed := true, recurses := true, apart := false, narrowed := true }
def RewriteBackUptoSaid : Prop := rewriteBackUptoRow.holds Try.pinned (OpenSpec.upto rewriteBackSpec)

/-- 'bazaarlaw9.RewriteDiffers', WHERE WHAT IT READS IS OF BULK AT MOST 1048576: true; the input reads as it did. -/
def rewriteDiffersUptoRow : OpenClaim := { program := "ytnchnjkakddhlaa", sum := "12bf1aa788c63191e9e76c476d6b6a7c5419fda50beefae77c51dccef709451c", func := "bazaar/bazaarlaw9.RewriteDiffers", spec := "rewriteDiffers", unfollowed := true, recurses := true, apart := false, narrowed := true }
def RewriteDiffersUptoSaid : Prop := rewriteDiffersUptoRow.holds Try.pinned (OpenSpec.upto rewriteDiffersSpec)

end Rows
end Go.Proofs.Ytnchnjkakddhlaa
