/-
  No cell of these rows narrows 'for every input' (looked for: loops, veiled, ifaces, maps, wideKeys, modest, calm, conditions, laid).
  DERIVED. THE GIVEN ROWS OF THIS SEAT. 4 by the template 'for every input the law returns true; each argument reads behind the call as it read before'; 0 by the template 'total and deterministic' (their statements: YtgnhnaambioinaaTotals.lean).
  GIVEN WITH THE SEED: the statements are not yours to turn. If you find one false, say at which input.
  Laid BY PROGRAM, IN A SANDBOX (cutbox-rows.mjs): the forced cells as the released guide's own fill.sh prints them over the translation 8c8593b75e6f5748… (all of the seat's roots in one cut). By AI agents, Wed Nov 11 2026. No macro, syntax, notation, axiom, sorry.
-/
import Derived.Test.YtgnhnaambioinaaChecked
import GoSem.Claim
import GoSem.ClaimJoined
import GoSem.ClaimMapViews
import Derived.JoinedTies
import Derived.KernelRfl
namespace Go.Proofs.Ytgnhnaambioinaa
/- THE CELL 'sum', in the pinned program and in every row, IS THE sha256 OF THE DUMP (.gsa) THAT YtgnhnaambioinaaProg.lean LOADS. Nothing in Lean hashes anything: it is a label: what it is worth is what the hold of that sum in a sandbox is worth. -/
noncomputable def Try.pinned : Pinned := { name := "ytgnhnaambioinaa", sum := "8c8593b75e6f57480a3135bd0694be3aec721a5fd89d0a71afd9720c682b14da", checked := Try.checked }
namespace Rows
def none {H : Type} : Left H := { results := [], args := [] }

/-- 'bazaarlaw4.EtherTells': WHATEVER THE INPUT: true; the input reads as it did. -/
def etherTellsSpec : ChangeSpec := { name := "etherTells", fn := fun _ => fun
  | [d1, d2] => { results := [.lit (.bool true)], args := [d1, d2] }
  | _ => none }
def etherTellsRow : OpenClaim := { program := "ytgnhnaambioinaa", sum := "8c8593b75e6f57480a3135bd0694be3aec721a5fd89d0a71afd9720c682b14da", func := "bazaar/bazaarlaw4.EtherTells", spec := "etherTells", apart := false }
def EtherTellsSaid : Prop := etherTellsRow.holds Try.pinned (OpenSpec.ofChange etherTellsSpec)

/-- ITS FALSE NEIGHBOUR: 'it returns false'. Refute it at one input. -/
def etherTellsWrong : ChangeSpec := { name := "etherTells", fn := fun _ => fun
  | [d1, d2] => { results := [.lit (.bool false)], args := [d1, d2] }
  | _ => none }
def EtherTellsWrongFalsely : Prop := etherTellsRow.holds Try.pinned (OpenSpec.ofChange etherTellsWrong)

/-- 'bazaarlaw4.EtherTags': WHATEVER THE INPUT: true; the input reads as it did. -/
def etherTagsSpec : ChangeSpec := { name := "etherTags", fn := fun _ => fun
  | [d1, d2, d3, d4, d5] => { results := [.lit (.bool true)], args := [d1, d2, d3, d4, d5] }
  | _ => none }
def etherTagsRow : OpenClaim := { program := "ytgnhnaambioinaa", sum := "8c8593b75e6f57480a3135bd0694be3aec721a5fd89d0a71afd9720c682b14da", func := "bazaar/bazaarlaw4.EtherTags", spec := "etherTags", apart := false }
def EtherTagsSaid : Prop := etherTagsRow.holds Try.pinned (OpenSpec.ofChange etherTagsSpec)

/-- ITS FALSE NEIGHBOUR: 'it returns false'. Refute it at one input. -/
def etherTagsWrong : ChangeSpec := { name := "etherTags", fn := fun _ => fun
  | [d1, d2, d3, d4, d5] => { results := [.lit (.bool false)], args := [d1, d2, d3, d4, d5] }
  | _ => none }
def EtherTagsWrongFalsely : Prop := etherTagsRow.holds Try.pinned (OpenSpec.ofChange etherTagsWrong)

/-- 'bazaarlaw4.EtherShort': WHATEVER THE INPUT: true; the input reads as it did. -/
def etherShortSpec : ChangeSpec := { name := "etherShort", fn := fun _ => fun
  | [d1, d2, d3] => { results := [.lit (.bool true)], args := [d1, d2, d3] }
  | _ => none }
def etherShortRow : OpenClaim := { program := "ytgnhnaambioinaa", sum := "8c8593b75e6f57480a3135bd0694be3aec721a5fd89d0a71afd9720c682b14da", func := "bazaar/bazaarlaw4.EtherShort", spec := "etherShort", apart := false }
def EtherShortSaid : Prop := etherShortRow.holds Try.pinned (OpenSpec.ofChange etherShortSpec)

/-- ITS FALSE NEIGHBOUR: 'it returns false'. Refute it at one input. -/
def etherShortWrong : ChangeSpec := { name := "etherShort", fn := fun _ => fun
  | [d1, d2, d3] => { results := [.lit (.bool false)], args := [d1, d2, d3] }
  | _ => none }
def EtherShortWrongFalsely : Prop := etherShortRow.holds Try.pinned (OpenSpec.ofChange etherShortWrong)

/-- 'bazaarlaw4.EtherKinds': WHATEVER THE INPUT: true; the input reads as it did. -/
def etherKindsSpec : ChangeSpec := { name := "etherKinds", fn := fun _ => fun
  | [d1, d2, d3] => { results := [.lit (.bool true)], args := [d1, d2, d3] }
  | _ => none }
def etherKindsRow : OpenClaim := { program := "ytgnhnaambioinaa", sum := "8c8593b75e6f57480a3135bd0694be3aec721a5fd89d0a71afd9720c682b14da", func := "bazaar/bazaarlaw4.EtherKinds", spec := "etherKinds", apart := false }
def EtherKindsSaid : Prop := etherKindsRow.holds Try.pinned (OpenSpec.ofChange etherKindsSpec)

/-- ITS FALSE NEIGHBOUR: 'it returns false'. Refute it at one input. -/
def etherKindsWrong : ChangeSpec := { name := "etherKinds", fn := fun _ => fun
  | [d1, d2, d3] => { results := [.lit (.bool false)], args := [d1, d2, d3] }
  | _ => none }
def EtherKindsWrongFalsely : Prop := etherKindsRow.holds Try.pinned (OpenSpec.ofChange etherKindsWrong)

/- THE SECOND FORM. 'bulk': how many values and letters a reading holds, each counted each time it is reached (what is shared counts as often as it is met; a slice's spare places count too). A statement '..UptoSaid' is the law's where the arguments, and the package variables that the reading takes, are together of bulk at most 1048576: NARROWER than '..Said'. Prove '..Said' where nothing that the law and all that it calls make is longer than what came in: it says more and counts as full. Else prove '..UptoSaid'. A law counts once. -/
mutual
def uptoBulk {H : Type} : DataW H → Nat
  | .lit (.string bytes) => bytes.length + 1
  | .lit _ => 1
  | .nil => 1
  | .ptr d => uptoBulk d + 1
  | .slice elems spare => uptoBulkAll elems + uptoBulkAll spare + 1
  | .agg parts => uptoBulkAll parts + 1
  | .iface _ d => uptoBulk d + 1
  | .map entries => uptoBulkEntries entries + 1
  | .held _ => 1
def uptoBulkAll {H : Type} : List (DataW H) → Nat
  | [] => 0
  | d :: r => uptoBulk d + uptoBulkAll r
def uptoBulkEntries {H : Type} : List (Lit × DataW H) → Nat
  | [] => 0
  | x :: r => uptoBulkEntry x + uptoBulkEntries r
def uptoBulkEntry {H : Type} : Lit × DataW H → Nat
  | (.string bytes, d) => bytes.length + uptoBulk d + 1
  | (_, d) => uptoBulk d + 1
 end
def uptoSmall : (H : Type) → List (DataW H) → Bool := fun _ ds => decide (uptoBulkAll ds ≤ 1048576)
def OpenSpec.upto (s : _root_.Go.ChangeSpec) : _root_.Go.OpenSpec := { _root_.Go.OpenSpec.ofChange s with cond := some uptoSmall }

/-- 'bazaarlaw4.EtherTells', WHERE WHAT IT READS IS OF BULK AT MOST 1048576: true; the input reads as it did. -/
def etherTellsUptoRow : OpenClaim := { program := "ytgnhnaambioinaa", sum := "8c8593b75e6f57480a3135bd0694be3aec721a5fd89d0a71afd9720c682b14da", func := "bazaar/bazaarlaw4.EtherTells", spec := "etherTells", apart := false, narrowed := true }
def EtherTellsUptoSaid : Prop := etherTellsUptoRow.holds Try.pinned (OpenSpec.upto etherTellsSpec)

/-- 'bazaarlaw4.EtherTags', WHERE WHAT IT READS IS OF BULK AT MOST 1048576: true; the input reads as it did. -/
def etherTagsUptoRow : OpenClaim := { program := "ytgnhnaambioinaa", sum := "8c8593b75e6f57480a3135bd0694be3aec721a5fd89d0a71afd9720c682b14da", func := "bazaar/bazaarlaw4.EtherTags", spec := "etherTags", apart := false, narrowed := true }
def EtherTagsUptoSaid : Prop := etherTagsUptoRow.holds Try.pinned (OpenSpec.upto etherTagsSpec)

/-- 'bazaarlaw4.EtherShort', WHERE WHAT IT READS IS OF BULK AT MOST 1048576: true; the input reads as it did. -/
def etherShortUptoRow : OpenClaim := { program := "ytgnhnaambioinaa", sum := "8c8593b75e6f57480a3135bd0694be3aec721a5fd89d0a71afd9720c682b14da", func := "bazaar/bazaarlaw4.EtherShort", spec := "etherShort", apart := false, narrowed := true }
def EtherShortUptoSaid : Prop := etherShortUptoRow.holds Try.pinned (OpenSpec.upto etherShortSpec)

/-- 'bazaarlaw4.EtherKinds', WHERE WHAT IT READS IS OF BULK AT MOST 1048576: true; the input reads as it did. -/
def etherKindsUptoRow : OpenClaim := { program := "ytgnhnaambioinaa", sum := "8c8593b75e6f57480a3135bd0694be3aec721a5fd89d0a71afd9720c682b14da", func := "bazaar/bazaarlaw4.EtherKinds", spec := "etherKinds", apart := false, narrowed := true }
def EtherKindsUptoSaid : Prop := etherKindsUptoRow.holds Try.pinned (OpenSpec.upto etherKindsSpec)

end Rows
end Go.Proofs.Ytgnhnaambioinaa
