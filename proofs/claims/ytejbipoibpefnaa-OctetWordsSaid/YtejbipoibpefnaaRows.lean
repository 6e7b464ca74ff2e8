/-
  No cell of these rows narrows 'for every input' (looked for: loops, veiled, ifaces, maps, wideKeys, modest, calm, conditions, laid).
  DERIVED. THE GIVEN ROWS OF THIS SEAT. 5 by the template 'for every input the law returns true; each argument reads behind the call as it read before'; 0 by the template 'total and deterministic' (their statements: YtejbipoibpefnaaTotals.lean).
  GIVEN WITH THE SEED: the statements are not yours to turn. If you find one false, say at which input.
  Laid BY PROGRAM, IN A SANDBOX (cutbox-rows.mjs): the forced cells as the released guide's own fill.sh prints them over the translation 0e96a5c78c8e46bb… (all of the seat's roots in one cut). By AI agents, Wed Nov 11 2026. No macro, syntax, notation, axiom, sorry.
-/
import Derived.Test.YtejbipoibpefnaaChecked
import GoSem.Claim
import GoSem.ClaimJoined
import GoSem.ClaimMapViews
import Derived.JoinedTies
import Derived.KernelRfl
namespace Go.Proofs.Ytejbipoibpefnaa
/- THE CELL 'sum', in the pinned program and in every row, IS THE sha256 OF THE DUMP (.gsa) THAT YtejbipoibpefnaaProg.lean LOADS. Nothing in Lean hashes anything: it is a label: what it is worth is what the hold of that sum in a sandbox is worth. -/
noncomputable def Try.pinned : Pinned := { name := "ytejbipoibpefnaa", sum := "0e96a5c78c8e46bbad797b1c268ba2054771ad4213f7bc4396a99937e8150293", checked := Try.checked }
namespace Rows
def none {H : Type} : Left H := { results := [], args := [] }

/-- 'bazaarlaw1.OctetGets': WHATEVER THE INPUT: true; the input reads as it did. -/
def octetGetsSpec : ChangeSpec := { name := "octetGets", fn := fun _ => fun
  | [d1, d2] => { results := [.lit (.bool true)], args := [d1, d2] }
  | _ => none }
def octetGetsRow : OpenClaim := { program := "ytejbipoibpefnaa", sum := "0e96a5c78c8e46bbad797b1c268ba2054771ad4213f7bc4396a99937e8150293", func := "bazaar/bazaarlaw1.OctetGets", spec := "octetGets", unfollowed := true, recurses := true, apart := false }
def OctetGetsSaid : Prop := octetGetsRow.holds Try.pinned (OpenSpec.ofChange octetGetsSpec)

/-- ITS FALSE NEIGHBOUR: 'it returns false'. Refute it at one input. -/
def octetGetsWrong : ChangeSpec := { name := "octetGets", fn := fun _ => fun
  | [d1, d2] => { results := [.lit (.bool false)], args := [d1, d2] }
  | _ => none }
def OctetGetsWrongFalsely : Prop := octetGetsRow.holds Try.pinned (OpenSpec.ofChange octetGetsWrong)

/-- 'bazaarlaw1.OctetPuts': WHATEVER THE INPUT: true; the input reads as it did. -/
def octetPutsSpec : ChangeSpec := { name := "octetPuts", fn := fun _ => fun
  | [d1, d2, d3] => { results := [.lit (.bool true)], args := [d1, d2, d3] }
  | _ => none }
def octetPutsRow : OpenClaim := { program := "ytejbipoibpefnaa", sum := "0e96a5c78c8e46bbad797b1c268ba2054771ad4213f7bc4396a99937e8150293", func := "bazaar/bazaarlaw1.OctetPuts", spec := "octetPuts", unfollowed := true, recurses := true, apart := false }
def OctetPutsSaid : Prop := octetPutsRow.holds Try.pinned (OpenSpec.ofChange octetPutsSpec)

/-- ITS FALSE NEIGHBOUR: 'it returns false'. Refute it at one input. -/
def octetPutsWrong : ChangeSpec := { name := "octetPuts", fn := fun _ => fun
  | [d1, d2, d3] => { results := [.lit (.bool false)], args := [d1, d2, d3] }
  | _ => none }
def OctetPutsWrongFalsely : Prop := octetPutsRow.holds Try.pinned (OpenSpec.ofChange octetPutsWrong)

/-- 'bazaarlaw1.OctetWords': WHATEVER THE INPUT: true; the input reads as it did. -/
def octetWordsSpec : ChangeSpec := { name := "octetWords", fn := fun _ => fun
  | [d1, d2] => { results := [.lit (.bool true)], args := [d1, d2] }
  | _ => none }
def octetWordsRow : OpenClaim := { program := "ytejbipoibpefnaa", sum := "0e96a5c78c8e46bbad797b1c268ba2054771ad4213f7bc4396a99937e8150293", func := "bazaar/bazaarlaw1.OctetWords", spec := "octetWords", unfollowed := true, recurses := true, apart := false }
def OctetWordsSaid : Prop := octetWordsRow.holds Try.pinned (OpenSpec.ofChange octetWordsSpec)

/-- ITS FALSE NEIGHBOUR: 'it returns false'. Refute it at one input. -/
def octetWordsWrong : ChangeSpec := { name := "octetWords", fn := fun _ => fun
  | [d1, d2] => { results := [.lit (.bool false)], args := [d1, d2] }
  | _ => none }
def OctetWordsWrongFalsely : Prop := octetWordsRow.holds Try.pinned (OpenSpec.ofChange octetWordsWrong)

/-- 'bazaarlaw1.OctetSame': WHATEVER THE INPUT: true; the input reads as it did. -/
def octetSameSpec : ChangeSpec := { name := "octetSame", fn := fun _ => fun
  | [d1, d2, d3, d4] => { results := [.lit (.bool true)], args := [d1, d2, d3, d4] }
  | _ => none }
def octetSameRow : OpenClaim := { program := "ytejbipoibpefnaa", sum := "0e96a5c78c8e46bbad797b1c268ba2054771ad4213f7bc4396a99937e8150293", func := "bazaar/bazaarlaw1.OctetSame", spec := "octetSame", unfollowed := true, recurses := true, apart := false }
def OctetSameSaid : Prop := octetSameRow.holds Try.pinned (OpenSpec.ofChange octetSameSpec)

/-- ITS FALSE NEIGHBOUR: 'it returns false'. Refute it at one input. -/
def octetSameWrong : ChangeSpec := { name := "octetSame", fn := fun _ => fun
  | [d1, d2, d3, d4] => { results := [.lit (.bool false)], args := [d1, d2, d3, d4] }
  | _ => none }
def OctetSameWrongFalsely : Prop := octetSameRow.holds Try.pinned (OpenSpec.ofChange octetSameWrong)

/-- 'bazaarlaw1.OctetJoins': WHATEVER THE INPUT: true; the input reads as it did. -/
def octetJoinsSpec : ChangeSpec := { name := "octetJoins", fn := fun _ => fun
  | [d] => { results := [.lit (.bool true)], args := [d] }
  | _ => none }
def octetJoinsRow : OpenClaim := { program := "ytejbipoibpefnaa", sum := "0e96a5c78c8e46bbad797b1c268ba2054771ad4213f7bc4396a99937e8150293", func := "bazaar/bazaarlaw1.OctetJoins", spec := "octetJoins", unfollowed := true, recurses := true, apart := false }
def OctetJoinsSaid : Prop := octetJoinsRow.holds Try.pinned (OpenSpec.ofChange octetJoinsSpec)

/-- ITS FALSE NEIGHBOUR: 'it returns false'. Refute it at one input. -/
def octetJoinsWrong : ChangeSpec := { name := "octetJoins", fn := fun _ => fun
  | [d] => { results := [.lit (.bool false)], args := [d] }
  | _ => none }
def OctetJoinsWrongFalsely : Prop := octetJoinsRow.holds Try.pinned (OpenSpec.ofChange octetJoinsWrong)

/- THE SECOND FORM. 'bulk': how many values and letters a reading holds, each counted each time it is reached (what is shared counts as often as it is met; a slice's spare places count too). A statement '..UptoSaid' is the law's where the arguments, and the package variables that the reading takes, are together of bulk at most 1048576: NARROWER than '..Said'. Prove '..Said' where nothing that the law and all that it calls make is longer than what came in: it says more and counts as full. Else prove '..UptoSaid'. A law counts once. -/
mutual
def uptoBulk {H : Type} : DataW H → Nat
  | .lit (.string bytes) => bytes.length + 1
  | .lit _ => 1
  | .nil => 1
  | .ptr d => uptoBulk d + 1
  | .slice elems spare => uptoBulkAll elems + uptoBulkAll spare + 1
  | .agg parts => uptoBulkAll parts + 1
  | .iface _ d => uptoBulk d + 1
  | .map entries => uptoBulkEntries entries + 1
  | .held _ => 1
def uptoBulkAll {H : Type} : List (DataW H) → Nat
  | [] => 0
  | d :: r => uptoBulk d + uptoBulkAll r
def uptoBulkEntries {H : Type} : List (Lit × DataW H) → Nat
  | [] => 0
  | x :: r => uptoBulkEntry x + uptoBulkEntries r
def uptoBulkEntry {H : Type} : Lit × DataW H → Nat
  | (.string bytes, d) => bytes.length + uptoBulk d + 1
  | (_, d) => uptoBulk d + 1
 end
def uptoSmall : (H : Type) → List (DataW H) → Bool := fun _ ds => decide (uptoBulkAll ds ≤ 1048576)
def OpenSpec.upto (s : _root_.Go.ChangeSpec) : _root_.Go.OpenSpec := { _root_.Go.OpenSpec.ofChange s with cond := some uptoSmall }

/-- 'bazaarlaw1.OctetGets', WHERE WHAT IT READS IS OF BULK AT MOST 1048576: true; the input reads as it did. -/
def octetGetsUptoRow : OpenClaim := { program := "ytejbipoibpefnaa", sum := "0e96a5c78c8e46bbad797b1c268ba2054771ad4213f7bc4396a99937e8150293", func := "bazaar/bazaarlaw1.OctetGets", spec := "octetGets", unfollowed := true, recurses := true, apart := false, narrowed := true }
def OctetGetsUptoSaid : Prop := octetGetsUptoRow.holds Try.pinned (OpenSpec.upto octetGetsSpec)

/-- 'bazaarlaw1.OctetPuts', WHERE WHAT IT READS IS OF BULK AT MOST 1048576: true; the input reads as it did. -/
def octetPutsUptoRow : OpenClaim := { program := "ytejbipoibpefnaa", sum := "0e96a5c78c8e46bbad797b1c268ba2054771ad4213f7bc4396a99937e8150293", func := "bazaar/bazaarlaw1.OctetPuts", spec := "octetPuts", unfollowed := true, recurses := true, apart := false, narrowed := true }
def OctetPutsUptoSaid : Prop := octetPutsUptoRow.holds Try.pinned (OpenSpec.upto octetPutsSpec)

/-- 'bazaarlaw1.OctetWords', WHERE WHAT IT READS IS OF BULK AT MOST 1048576: true; the input reads as it did. -/
def octetWordsUptoRow : OpenClaim := { program := "ytejbipoibpefnaa", sum := "0e96a5c78c8e46bbad797b1c268ba2054771ad4213f7bc4396a99937e8150293", func := "bazaar/bazaarlaw1.OctetWords", spec := "octetWords", unfollowed := true, recurses := true, apart := false, narrowed := true }
def OctetWordsUptoSaid : Prop := octetWordsUptoRow.holds Try.pinned (OpenSpec.upto octetWordsSpec)

/-- 'bazaarlaw1.OctetSame', WHERE WHAT IT READS IS OF BULK AT MOST 1048576: true; the input reads as it did. -/
def octetSameUptoRow : OpenClaim := { program := "ytejbipoibpefnaa", sum := "0e96a5c78c8e46bbad797b1c268ba2054771ad4213f7bc4396a99937e8150293", func := "bazaar/bazaarlaw1.OctetSame", spec := "octetSame", unfollowed := true, recurses := true, apart := false, narrowed := true }
def OctetSameUptoSaid : Prop := octetSameUptoRow.holds Try.pinned (OpenSpec.upto octetSameSpec)

/-- 'bazaarlaw1.OctetJoins', WHERE WHAT IT READS IS OF BULK AT MOST 1048576: true; the input reads as it did. -/
def octetJoinsUptoRow : OpenClaim := { program := "ytejbipoibpefnaa", sum := "0e96a5c78c8e46bbad797b1c268ba2054771ad4213f7bc4396a99937e8150293", func := "bazaar/bazaarlaw1.OctetJoins", spec := "octetJoins", unfollowed := true, recurses := true, apart := false, narrowed := true }
def OctetJoinsUptoSaid : Prop := octetJoinsUptoRow.holds Try.pinned (OpenSpec.upto octetJoinsSpec)

end Rows
end Go.Proofs.Ytejbipoibpefnaa
