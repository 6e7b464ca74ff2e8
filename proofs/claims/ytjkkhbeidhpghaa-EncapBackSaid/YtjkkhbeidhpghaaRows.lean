/-
  No cell of these rows narrows 'for every input' (looked for: loops, veiled, ifaces, maps, wideKeys, modest, calm, conditions, laid).
  DERIVED. THE GIVEN ROWS OF THIS SEAT. 4 by the template 'for every input the law returns true; each argument reads behind the call as it read before'; 0 by the template 'total and deterministic' (their statements: YtjkkhbeidhpghaaTotals.lean).
  GIVEN WITH THE SEED: the statements are not yours to turn. If you find one false, say at which input.
  Laid BY PROGRAM, IN A SANDBOX (cutbox-rows.mjs): the forced cells as the released guide's own fill.sh prints them over the translation 09424974744b60dc… (all of the seat's roots in one cut). By AI agents, Wed Nov 11 2026. No macro, syntax, notation, axiom, sorry.
-/
import Derived.Test.YtjkkhbeidhpghaaChecked
import GoSem.Claim
import GoSem.ClaimJoined
import GoSem.ClaimMapViews
import Derived.JoinedTies
import Derived.KernelRfl
namespace Go.Proofs.Ytjkkhbeidhpghaa
/- THE CELL 'sum', in the pinned program and in every row, IS THE sha256 OF THE DUMP (.gsa) THAT YtjkkhbeidhpghaaProg.lean LOADS. Nothing in Lean hashes anything: it is a label: what it is worth is what the hold of that sum in a sandbox is worth. -/
noncomputable def Try.pinned : Pinned := { name := "ytjkkhbeidhpghaa", sum := "09424974744b60dc44eb50683515e3e0dbe687396932e0d539f79a5a6856928a", checked := Try.checked }
namespace Rows
def none {H : Type} : Left H := { results := [], args := [] }

/-- 'bazaarlaw10.EncapBack': WHATEVER THE INPUT: true; the input reads as it did. -/
def encapBackSpec : ChangeSpec := { name := "encapBack", fn := fun _ => fun
  | [d1, d2, d3, d4, d5, d6, d7, d8] => { results := [.lit (.bool true)], args := [d1, d2, d3, d4, d5, d6, d7, d8] }
  | _ => none }
def encapBackRow : OpenClaim := { program := "ytjkkhbeidhpghaa", sum := "09424974744b60dc44eb50683515e3e0dbe687396932e0d539f79a5a6856928a", func := "bazaar/bazaarlaw10.EncapBack", spec := "encapBack", unfollowed := true, recurses := true, apart := false }
def EncapBackSaid : Prop := encapBackRow.holds Try.pinned (OpenSpec.ofChange encapBackSpec)

/-- ITS FALSE NEIGHBOUR: 'it returns false'. Refute it at one input. -/
def encapBackWrong : ChangeSpec := { name := "encapBack", fn := fun _ => fun
  | [d1, d2, d3, d4, d5, d6, d7, d8] => { results := [.lit (.bool false)], args := [d1, d2, d3, d4, d5, d6, d7, d8] }
  | _ => none }
def EncapBackWrongFalsely : Prop := encapBackRow.holds Try.pinned (OpenSpec.ofChange encapBackWrong)

/-- 'bazaarlaw10.EncapOdd': WHATEVER THE INPUT: true; the input reads as it did. -/
def encapOddSpec : ChangeSpec := { name := "encapOdd", fn := fun _ => fun
  | [d1, d2, d3, d4, d5, d6, d7] => { results := [.lit (.bool true)], args := [d1, d2, d3, d4, d5, d6, d7] }
  | _ => none }
def encapOddRow : OpenClaim := { program := "ytjkkhbeidhpghaa", sum := "09424974744b60dc44eb50683515e3e0dbe687396932e0d539f79a5a6856928a", func := "bazaar/bazaarlaw10.EncapOdd", spec := "encapOdd", unfollowed := true, recurses := true, apart := false }
def EncapOddSaid : Prop := encapOddRow.holds Try.pinned (OpenSpec.ofChange encapOddSpec)

/-- ITS FALSE NEIGHBOUR: 'it returns false'. Refute it at one input. -/
def encapOddWrong : ChangeSpec := { name := "encapOdd", fn := fun _ => fun
  | [d1, d2, d3, d4, d5, d6, d7] => { results := [.lit (.bool false)], args := [d1, d2, d3, d4, d5, d6, d7] }
  | _ => none }
def EncapOddWrongFalsely : Prop := encapOddRow.holds Try.pinned (OpenSpec.ofChange encapOddWrong)

/-- 'bazaarlaw10.EncapBig': WHATEVER THE INPUT: true; the input reads as it did. -/
def encapBigSpec : ChangeSpec := { name := "encapBig", fn := fun _ => fun
  | [d1, d2, d3] => { results := [.lit (.bool true)], args := [d1, d2, d3] }
  | _ => none }
def encapBigRow : OpenClaim := { program := "ytjkkhbeidhpghaa", sum := "09424974744b60dc44eb50683515e3e0dbe687396932e0d539f79a5a6856928a", func := "bazaar/bazaarlaw10.EncapBig", spec := "encapBig", unfollowed := true, recurses := true, apart := false }
def EncapBigSaid : Prop := encapBigRow.holds Try.pinned (OpenSpec.ofChange encapBigSpec)

/-- ITS FALSE NEIGHBOUR: 'it returns false'. Refute it at one input. -/
def encapBigWrong : ChangeSpec := { name := "encapBig", fn := fun _ => fun
  | [d1, d2, d3] => { results := [.lit (.bool false)], args := [d1, d2, d3] }
  | _ => none }
def EncapBigWrongFalsely : Prop := encapBigRow.holds Try.pinned (OpenSpec.ofChange encapBigWrong)

/-- 'bazaarlaw10.EncapTwice': WHATEVER THE INPUT: true; the input reads as it did. -/
def encapTwiceSpec : ChangeSpec := { name := "encapTwice", fn := fun _ => fun
  | [d1, d2, d3, d4] => { results := [.lit (.bool true)], args := [d1, d2, d3, d4] }
  | _ => none }
def encapTwiceRow : OpenClaim := { program := "ytjkkhbeidhpghaa", sum := "09424974744b60dc44eb50683515e3e0dbe687396932e0d539f79a5a6856928a", func := "bazaar/bazaarlaw10.EncapTwice", spec := "encapTwice", unfollowed := true, recurses := true, apart := false }
def EncapTwiceSaid : Prop := encapTwiceRow.holds Try.pinned (OpenSpec.ofChange encapTwiceSpec)

/-- ITS FALSE NEIGHBOUR: 'it returns false'. Refute it at one input. -/
def encapTwiceWrong : ChangeSpec := { name := "encapTwice", fn := fun _ => fun
  | [d1, d2, d3, d4] => { results := [.lit (.bool false)], args := [d1, d2, d3, d4] }
  | _ => none }
def EncapTwiceWrongFalsely : Prop := encapTwiceRow.holds Try.pinned (OpenSpec.ofChange encapTwiceWrong)

/- THE SECOND FORM. 'bulk': how many values and letters a reading holds, each counted each time it is reached (what is shared counts as often as it is met; a slice's spare places count too). A statement '..UptoSaid' is the law's where the arguments, and the package variables that the reading takes, are together of bulk at most 1048576: NARROWER than '..Said'. Prove '..Said' where nothing that the law and all that it calls make is longer than what came in: it says more and counts as full. Else prove '..UptoSaid'. A law counts once. -/
mutual
def uptoBulk {H : Type} : DataW H → Nat
  | .lit (.string bytes) => bytes.length + 1
  | .lit _ => 1
  | .nil => 1
  | .ptr d => uptoBulk d + 1
  | .slice elems spare => uptoBulkAll elems + uptoBulkAll spare + 1
  | .agg parts => uptoBulkAll parts + 1
  | .iface _ d => uptoBulk d + 1
  | .map entries => uptoBulkEntries entries + 1
  | .held _ => 1
def uptoBulkAll {H : Type} : List (DataW H) → Nat
  | [] => 0
  | d :: r => uptoBulk d + uptoBulkAll r
def uptoBulkEntries {H : Type} : List (Lit × DataW H) → Nat
  | [] => 0
  | x :: r => uptoBulkEntry x + uptoBulkEntries r
def uptoBulkEntry {H : Type} : Lit × DataW H → Nat
  | (.string bytes, d) => bytes.length + uptoBulk d + 1
  | (_, d) => uptoBulk d + 1
 end
def uptoSmall : (H : Type) → List (DataW H) → Bool := fun _ ds => decide (uptoBulkAll ds ≤ 1048576)
def OpenSpec.upto (s : _root_.Go.ChangeSpec) : _root_.Go.OpenSpec := { _root_.Go.OpenSpec.ofChange s with cond := some uptoSmall }

/-- 'bazaarlaw10.EncapBack', WHERE WHAT IT READS IS OF BULK AT MOST 1048576: true; the input reads as it did. -/
def encapBackUptoRow : OpenClaim := { program := "ytjkkhbeidhpghaa", sum := "09424974744b60dc44eb50683515e3e0dbe687396932e0d539f79a5a6856928a", func := "bazaar/bazaarlaw10.EncapBack", spec := "encapBack", unfollowed := true, recurses := true, apart := false, narrowed := true }
def EncapBackUptoSaid : Prop := encapBackUptoRow.holds Try.pinned (OpenSpec.upto encapBackSpec)

/-- 'bazaarlaw10.EncapOdd', WHERE WHAT IT READS IS OF BULK AT MOST 1048576: true; the input reads as it did. -/
def encapOddUptoRow : OpenClaim := { program := "ytjkkhbeidhpghaa", sum := "09424974744b60dc44eb50683515e3e0dbe687396932e0d539f79a5a6856928a", func := "bazaar/bazaarlaw10.EncapOdd", spec := "encapOdd", unfollowed := true, recurses := true, apart := false, narrowed := true }
def EncapOddUptoSaid : Prop := encapOddUptoRow.holds Try.pinned (OpenSpec.upto encapOddSpec)

/-- 'bazaarlaw10.EncapBig', WHERE WHAT IT READS IS OF BULK AT MOST 1048576: true; the input reads as it did. -/
def encapBigUptoRow : OpenClaim := { program := "ytjkkhbeidhpghaa", sum := "09424974744b60dc44eb50683515e3e0dbe687396932e0d539f79a5a6856928a", func := "bazaar/bazaarlaw10.EncapBig", spec := "encapBig", unfollowed := true, recurses := true, apart := false, narrowed := true }
def EncapBigUptoSaid : Prop := encapBigUptoRow.holds Try.pinned (OpenSpec.upto encapBigSpec)

/-- 'bazaarlaw10.EncapTwice', WHERE WHAT IT READS IS OF BULK AT MOST 1048576: true; the input reads as it did. -/
def encapTwiceUptoRow : OpenClaim := { program := "ytjkkhbeidhpghaa", sum := "09424974744b60dc44eb50683515e3e0dbe687396932e0d539f79a5a6856928a", func := "bazaar/bazaarlaw10.EncapTwice", spec := "encapTwice", unfollowed := true, recurses := true, apart := false, narrowed := true }
def EncapTwiceUptoSaid : Prop := encapTwiceUptoRow.holds Try.pinned (OpenSpec.upto encapTwiceSpec)

end Rows
end Go.Proofs.Ytjkkhbeidhpghaa
