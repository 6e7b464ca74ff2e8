/-
  No cell of these rows narrows 'for every input' (looked for: loops, veiled, ifaces, maps, wideKeys, modest, calm, conditions, laid).
  DERIVED. THE GIVEN ROWS OF THIS SEAT. 4 by the template 'for every input the law returns true; each argument reads behind the call as it read before'; 0 by the template 'total and deterministic' (their statements: YtpghomcohejejaaTotals.lean).
  GIVEN WITH THE SEED: the statements are not yours to turn. If you find one false, say at which input.
  Laid BY PROGRAM, IN A SANDBOX (cutbox-rows.mjs): the forced cells as the released guide's own fill.sh prints them over the translation 1ca0fbd70a0249c8… (all of the seat's roots in one cut). By AI agents, Wed Nov 11 2026. No macro, syntax, notation, axiom, sorry.
-/
import Derived.Test.YtpghomcohejejaaChecked
import GoSem.Claim
import GoSem.ClaimJoined
import GoSem.ClaimMapViews
import Derived.JoinedTies
import Derived.KernelRfl
namespace Go.Proofs.Ytpghomcohejejaa
/- THE CELL 'sum', in the pinned program and in every row, IS THE sha256 OF THE DUMP (.gsa) THAT YtpghomcohejejaaProg.lean LOADS. Nothing in Lean hashes anything: it is a label: what it is worth is what the hold of that sum in a sandbox is worth. -/
noncomputable def Try.pinned : Pinned := { name := "ytpghomcohejejaa", sum := "1ca0fbd70a0249c846d20c4048462b779dc2ca73064e5f2b1aab28e723c3f733", checked := Try.checked }
namespace Rows
def none {H : Type} : Left H := { results := [], args := [] }

/-- 'bazaarlaw23.HealthTells': WHATEVER THE INPUT: true; the input reads as it did. -/
def healthTellsSpec : ChangeSpec := { name := "healthTells", fn := fun _ => fun
  | [d1, d2] => { results := [.lit (.bool true)], args := [d1, d2] }
  | _ => none }
def healthTellsRow : OpenClaim := { program := "ytpghomcohejejaa", sum := "1ca0fbd70a0249c846d20c4048462b779dc2ca73064e5f2b1aab28e723c3f733", func := "bazaar/bazaarlaw23.HealthTells", spec := "healthTells", unfollowed := true, recurses := true, plainKeys := false, apart := false }
def HealthTellsSaid : Prop := healthTellsRow.holds Try.pinned (OpenSpec.ofChange healthTellsSpec)

/-- ITS FALSE NEIGHBOUR: 'it returns false'. Refute it at one input. -/
def healthTellsWrong : ChangeSpec := { name := "healthTells", fn := fun _ => fun
  | [d1, d2] => { results := [.lit (.bool false)], args := [d1, d2] }
  | _ => none }
def HealthTellsWrongFalsely : Prop := healthTellsRow.holds Try.pinned (OpenSpec.ofChange healthTellsWrong)

/-- 'bazaarlaw23.HealthRows': WHATEVER THE INPUT: true; the input reads as it did. -/
def healthRowsSpec : ChangeSpec := { name := "healthRows", fn := fun _ => fun
  | [d1, d2, d3] => { results := [.lit (.bool true)], args := [d1, d2, d3] }
  | _ => none }
def healthRowsRow : OpenClaim := { program := "ytpghomcohejejaa", sum := "1ca0fbd70a0249c846d20c4048462b779dc2ca73064e5f2b1aab28e723c3f733", func := "bazaar/bazaarlaw23.HealthRows", spec := "healthRows", unfollowed := true, recurses := true, plainKeys := false, apart := false }
def HealthRowsSaid : Prop := healthRowsRow.holds Try.pinned (OpenSpec.ofChange healthRowsSpec)

/-- ITS FALSE NEIGHBOUR: 'it returns false'. Refute it at one input. -/
def healthRowsWrong : ChangeSpec := { name := "healthRows", fn := fun _ => fun
  | [d1, d2, d3] => { results := [.lit (.bool false)], args := [d1, d2, d3] }
  | _ => none }
def HealthRowsWrongFalsely : Prop := healthRowsRow.holds Try.pinned (OpenSpec.ofChange healthRowsWrong)

/-- 'bazaarlaw23.HealthMany': WHATEVER THE INPUT: true; the input reads as it did. -/
def healthManySpec : ChangeSpec := { name := "healthMany", fn := fun _ => fun
  | [d1, d2] => { results := [.lit (.bool true)], args := [d1, d2] }
  | _ => none }
def healthManyRow : OpenClaim := { program := "ytpghomcohejejaa", sum := "1ca0fbd70a0249c846d20c4048462b779dc2ca73064e5f2b1aab28e723c3f733", func := "bazaar/bazaarlaw23.HealthMany", spec := "healthMany", unfollowed := true, recurses := true, plainKeys := false, apart := false }
def HealthManySaid : Prop := healthManyRow.holds Try.pinned (OpenSpec.ofChange healthManySpec)

/-- ITS FALSE NEIGHBOUR: 'it returns false'. Refute it at one input. -/
def healthManyWrong : ChangeSpec := { name := "healthMany", fn := fun _ => fun
  | [d1, d2] => { results := [.lit (.bool false)], args := [d1, d2] }
  | _ => none }
def HealthManyWrongFalsely : Prop := healthManyRow.holds Try.pinned (OpenSpec.ofChange healthManyWrong)

/-- 'bazaarlaw23.HealthOrder': WHATEVER THE INPUT: true; the input reads as it did. -/
def healthOrderSpec : ChangeSpec := { name := "healthOrder", fn := fun _ => fun
  | [d1, d2, d3] => { results := [.lit (.bool true)], args := [d1, d2, d3] }
  | _ => none }
def healthOrderRow : OpenClaim := { program := "ytpghomcohejejaa", sum := "1ca0fbd70a0249c846d20c4048462b779dc2ca73064e5f2b1aab28e723c3f733", func := "bazaar/bazaarlaw23.HealthOrder", spec := "healthOrder", unfollowed := true, recurses := true, plainKeys := false, apart := false }
def HealthOrderSaid : Prop := healthOrderRow.holds Try.pinned (OpenSpec.ofChange healthOrderSpec)

/-- ITS FALSE NEIGHBOUR: 'it returns false'. Refute it at one input. -/
def healthOrderWrong : ChangeSpec := { name := "healthOrder", fn := fun _ => fun
  | [d1, d2, d3] => { results := [.lit (.bool false)], args := [d1, d2, d3] }
  | _ => none }
def HealthOrderWrongFalsely : Prop := healthOrderRow.holds Try.pinned (OpenSpec.ofChange healthOrderWrong)

/- THE SECOND FORM. 'bulk': how many values and letters a reading holds, each counted each time it is reached (what is shared counts as often as it is met; a slice's spare places count too). A statement '..UptoSaid' is the law's where the arguments, and the package variables that the reading takes, are together of bulk at most 1048576: NARROWER than '..Said'. Prove '..Said' where nothing that the law and all that it calls make is longer than what came in: it says more and counts as full. Else prove '..UptoSaid'. A law counts once. -/
mutual
def uptoBulk {H : Type} : DataW H → Nat
  | .lit (.string bytes) => bytes.length + 1
  | .lit _ => 1
  | .nil => 1
  | .ptr d => uptoBulk d + 1
  | .slice elems spare => uptoBulkAll elems + uptoBulkAll spare + 1
  | .agg parts => uptoBulkAll parts + 1
  | .iface _ d => uptoBulk d + 1
  | .map entries => uptoBulkEntries entries + 1
  | .held _ => 1
def uptoBulkAll {H : Type} : List (DataW H) → Nat
  | [] => 0
  | d :: r => uptoBulk d + uptoBulkAll r
def uptoBulkEntries {H : Type} : List (Lit × DataW H) → Nat
  | [] => 0
  | x :: r => uptoBulkEntry x + uptoBulkEntries r
def uptoBulkEntry {H : Type} : Lit × DataW H → Nat
  | (.string bytes, d) => bytes.length + uptoBulk d + 1
  | (_, d) => uptoBulk d + 1
 end
def uptoSmall : (H : Type) → List (DataW H) → Bool := fun _ ds => decide (uptoBulkAll ds ≤ 1048576)
def OpenSpec.upto (s : _root_.Go.ChangeSpec) : _root_.Go.OpenSpec := { _root_.Go.OpenSpec.ofChange s with cond := some uptoSmall }

/-- 'bazaarlaw23.HealthTells', WHERE WHAT IT READS IS OF BULK AT MOST 1048576: true; the input reads as it did. -/
def healthTellsUptoRow : OpenClaim := { program := "ytpghomcohejejaa", sum := "1ca0fbd70a0249c846d20c4048462b779dc2ca73064e5f2b1aab28e723c3f733", func := "bazaar/bazaarlaw23.HealthTells", spec := "healthTells", unfollowed := true, recurses := true, plainKeys := false, apart := false, narrowed := true }
def HealthTellsUptoSaid : Prop := healthTellsUptoRow.holds Try.pinned (OpenSpec.upto healthTellsSpec)

/-- 'bazaarlaw23.HealthRows', WHERE WHAT IT READS IS OF BULK AT MOST 1048576: true; the input reads as it did. -/
def healthRowsUptoRow : OpenClaim := { program := "ytpghomcohejejaa", sum := "1ca0fbd70a0249c846d20c4048462b779dc2ca73064e5f2b1aab28e723c3f733", func := "bazaar/bazaarlaw23.HealthRows", spec := "healthRows", unfollowed := true, recurses := true, plainKeys := false, apart := false, narrowed := true }
def HealthRowsUptoSaid : Prop := healthRowsUptoRow.holds Try.pinned (OpenSpec.upto healthRowsSpec)

/-- 'bazaarlaw23.HealthMany', WHERE WHAT IT READS IS OF BULK AT MOST 1048576: true; the input reads as it did. -/
def healthManyUptoRow : OpenClaim := { program := "ytpghomcohejejaa", sum := "1ca0fbd70a0249c846d20c4048462b779dc2ca73064e5f2b1aab28e723c3f733", func := "bazaar/bazaarlaw23.HealthMany", spec := "healthMany", unfollowed := true, recurses := true, plainKeys := false, apart := false, narrowed := true }
def HealthManyUptoSaid : Prop := healthManyUptoRow.holds Try.pinned (OpenSpec.upto healthManySpec)

/-- 'bazaarlaw23.HealthOrder', WHERE WHAT IT READS IS OF BULK AT MOST 1048576: true; the input reads as it did. -/
def healthOrderUptoRow : OpenClaim := { program := "ytpghomcohejejaa", sum := "1ca0fbd70a0249c846d20c4048462b779dc2ca73064e5f2b1aab28e723c3f733", func := "bazaar/bazaarlaw23.HealthOrder", spec := "healthOrder", unfollowed := true, recurses := true, plainKeys := false, apart := false, narrowed := true }
def HealthOrderUptoSaid : Prop := healthOrderUptoRow.holds Try.pinned (OpenSpec.upto healthOrderSpec)

end Rows
end Go.Proofs.Ytpghomcohejejaa
