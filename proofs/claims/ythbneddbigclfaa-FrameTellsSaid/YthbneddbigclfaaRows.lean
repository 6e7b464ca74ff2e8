/-
  No cell of these rows narrows 'for every input' (looked for: loops, veiled, ifaces, maps, wideKeys, modest, calm, conditions, laid).
  DERIVED. THE GIVEN ROWS OF THIS SEAT. 5 by the template 'for every input the law returns true; each argument reads behind the call as it read before'; 0 by the template 'total and deterministic' (their statements: YthbneddbigclfaaTotals.lean).
  GIVEN WITH THE SEED: the statements are not yours to turn. If you find one false, say at which input.
  Laid BY PROGRAM, IN A SANDBOX (cutbox-rows.mjs): the forced cells as the released guide's own fill.sh prints them over the translation fcb03de4111c821b… (all of the seat's roots in one cut). By AI agents, Wed Nov 11 2026. No macro, syntax, notation, axiom, sorry.
-/
import Derived.Test.YthbneddbigclfaaChecked
import GoSem.Claim
import GoSem.ClaimJoined
import GoSem.ClaimMapViews
import Derived.JoinedTies
import Derived.KernelRfl
namespace Go.Proofs.Ythbneddbigclfaa
/- THE CELL 'sum', in the pinned program and in every row, IS THE sha256 OF THE DUMP (.gsa) THAT YthbneddbigclfaaProg.lean LOADS. Nothing in Lean hashes anything: it is a label: what it is worth is what the hold of that sum in a sandbox is worth. -/
noncomputable def Try.pinned : Pinned := { name := "ythbneddbigclfaa", sum := "fcb03de4111c821b6bc170b1c53c374d335e917936874ce9579b000b90d64ebe", checked := Try.checked }
namespace Rows
def none {H : Type} : Left H := { results := [], args := [] }

/-- 'bazaarlaw8.FrameTells': WHATEVER THE INPUT: true; the input reads as it did. -/
def frameTellsSpec : ChangeSpec := { name := "frameTells", fn := fun _ => fun
  | [d1, d2] => { results := [.lit (.bool true)], args := [d1, d2] }
  | _ => none }
def frameTellsRow : OpenClaim := { program := "ythbneddbigclfaa", sum := "fcb03de4111c821b6bc170b1c53c374d335e917936874ce9579b000b90d64ebe", func := "bazaar/bazaarlaw8.FrameTells", spec := "frameTells", unfollowed := true, recurses := true, apart := false }
def FrameTellsSaid : Prop := frameTellsRow.holds Try.pinned (OpenSpec.ofChange frameTellsSpec)

/-- ITS FALSE NEIGHBOUR: 'it returns false'. Refute it at one input. -/
def frameTellsWrong : ChangeSpec := { name := "frameTells", fn := fun _ => fun
  | [d1, d2] => { results := [.lit (.bool false)], args := [d1, d2] }
  | _ => none }
def FrameTellsWrongFalsely : Prop := frameTellsRow.holds Try.pinned (OpenSpec.ofChange frameTellsWrong)

/-- 'bazaarlaw8.FrameBuilt': WHATEVER THE INPUT: true; the input reads as it did. -/
def frameBuiltSpec : ChangeSpec := { name := "frameBuilt", fn := fun _ => fun
  | [d1, d2, d3, d4, d5, d6, d7, d8] => { results := [.lit (.bool true)], args := [d1, d2, d3, d4, d5, d6, d7, d8] }
  | _ => none }
def frameBuiltRow : OpenClaim := { program := "ythbneddbigclfaa", sum := "fcb03de4111c821b6bc170b1c53c374d335e917936874ce9579b000b90d64ebe", func := "bazaar/bazaarlaw8.FrameBuilt", spec := "frameBuilt", unfollowed := true, recurses := true, apart := false }
def FrameBuiltSaid : Prop := frameBuiltRow.holds Try.pinned (OpenSpec.ofChange frameBuiltSpec)

/-- ITS FALSE NEIGHBOUR: 'it returns false'. Refute it at one input. -/
def frameBuiltWrong : ChangeSpec := { name := "frameBuilt", fn := fun _ => fun
  | [d1, d2, d3, d4, d5, d6, d7, d8] => { results := [.lit (.bool false)], args := [d1, d2, d3, d4, d5, d6, d7, d8] }
  | _ => none }
def FrameBuiltWrongFalsely : Prop := frameBuiltRow.holds Try.pinned (OpenSpec.ofChange frameBuiltWrong)

/-- 'bazaarlaw8.FrameCut': WHATEVER THE INPUT: true; the input reads as it did. -/
def frameCutSpec : ChangeSpec := { name := "frameCut", fn := fun _ => fun
  | [d1, d2, d3, d4, d5, d6] => { results := [.lit (.bool true)], args := [d1, d2, d3, d4, d5, d6] }
  | _ => none }
def frameCutRow : OpenClaim := { program := "ythbneddbigclfaa", sum := "fcb03de4111c821b6bc170b1c53c374d335e917936874ce9579b000b90d64ebe", func := "bazaar/bazaarlaw8.FrameCut", spec := "frameCut", unfollowed := true, recurses := true, apart := false }
def FrameCutSaid : Prop := frameCutRow.holds Try.pinned (OpenSpec.ofChange frameCutSpec)

/-- ITS FALSE NEIGHBOUR: 'it returns false'. Refute it at one input. -/
def frameCutWrong : ChangeSpec := { name := "frameCut", fn := fun _ => fun
  | [d1, d2, d3, d4, d5, d6] => { results := [.lit (.bool false)], args := [d1, d2, d3, d4, d5, d6] }
  | _ => none }
def FrameCutWrongFalsely : Prop := frameCutRow.holds Try.pinned (OpenSpec.ofChange frameCutWrong)

/-- 'bazaarlaw8.FrameLayers': WHATEVER THE INPUT: true; the input reads as it did. -/
def frameLayersSpec : ChangeSpec := { name := "frameLayers", fn := fun _ => fun
  | [d1, d2, d3, d4, d5] => { results := [.lit (.bool true)], args := [d1, d2, d3, d4, d5] }
  | _ => none }
def frameLayersRow : OpenClaim := { program := "ythbneddbigclfaa", sum := "fcb03de4111c821b6bc170b1c53c374d335e917936874ce9579b000b90d64ebe", func := "bazaar/bazaarlaw8.FrameLayers", spec := "frameLayers", unfollowed := true, recurses := true, apart := false }
def FrameLayersSaid : Prop := frameLayersRow.holds Try.pinned (OpenSpec.ofChange frameLayersSpec)

/-- ITS FALSE NEIGHBOUR: 'it returns false'. Refute it at one input. -/
def frameLayersWrong : ChangeSpec := { name := "frameLayers", fn := fun _ => fun
  | [d1, d2, d3, d4, d5] => { results := [.lit (.bool false)], args := [d1, d2, d3, d4, d5] }
  | _ => none }
def FrameLayersWrongFalsely : Prop := frameLayersRow.holds Try.pinned (OpenSpec.ofChange frameLayersWrong)

/-- 'bazaarlaw8.FrameReasons': WHATEVER THE INPUT: true; the input reads as it did. -/
def frameReasonsSpec : ChangeSpec := { name := "frameReasons", fn := fun _ => fun
  | [d1, d2] => { results := [.lit (.bool true)], args := [d1, d2] }
  | _ => none }
def frameReasonsRow : OpenClaim := { program := "ythbneddbigclfaa", sum := "fcb03de4111c821b6bc170b1c53c374d335e917936874ce9579b000b90d64ebe", func := "bazaar/bazaarlaw8.FrameReasons", spec := "frameReasons", unfollowed := true, recurses := true, apart := false }
def FrameReasonsSaid : Prop := frameReasonsRow.holds Try.pinned (OpenSpec.ofChange frameReasonsSpec)

/-- ITS FALSE NEIGHBOUR: 'it returns false'. Refute it at one input. -/
def frameReasonsWrong : ChangeSpec := { name := "frameReasons", fn := fun _ => fun
  | [d1, d2] => { results := [.lit (.bool false)], args := [d1, d2] }
  | _ => none }
def FrameReasonsWrongFalsely : Prop := frameReasonsRow.holds Try.pinned (OpenSpec.ofChange frameReasonsWrong)

/- THE SECOND FORM. 'bulk': how many values and letters a reading holds, each counted each time it is reached (what is shared counts as often as it is met; a slice's spare places count too). A statement '..UptoSaid' is the law's where the arguments, and the package variables that the reading takes, are together of bulk at most 1048576: NARROWER than '..Said'. Prove '..Said' where nothing that the law and all that it calls make is longer than what came in: it says more and counts as full. Else prove '..UptoSaid'. A law counts once. -/
mutual
def uptoBulk {H : Type} : DataW H → Nat
  | .lit (.string bytes) => bytes.length + 1
  | .lit _ => 1
  | .nil => 1
  | .ptr d => uptoBulk d + 1
  | .slice elems spare => uptoBulkAll elems + uptoBulkAll spare + 1
  | .agg parts => uptoBulkAll parts + 1
  | .iface _ d => uptoBulk d + 1
  | .map entries => uptoBulkEntries entries + 1
  | .held _ => 1
def uptoBulkAll {H : Type} : List (DataW H) → Nat
  | [] => 0
  | d :: r => uptoBulk d + uptoBulkAll r
def uptoBulkEntries {H : Type} : List (Lit × DataW H) → Nat
  | [] => 0
  | x :: r => uptoBulkEntry x + uptoBulkEntries r
def uptoBulkEntry {H : Type} : Lit × DataW H → Nat
  | (.string bytes, d) => bytes.length + uptoBulk d + 1
  | (_, d) => uptoBulk d + 1
 end
def uptoSmall : (H : Type) → List (DataW H) → Bool := fun _ ds => decide (uptoBulkAll ds ≤ 1048576)
def OpenSpec.upto (s : _root_.Go.ChangeSpec) : _root_.Go.OpenSpec := { _root_.Go.OpenSpec.ofChange s with cond := some uptoSmall }

/-- 'bazaarlaw8.FrameTells', WHERE WHAT IT READS IS OF BULK AT MOST 1048576: true; the input reads as it did. -/
def frameTellsUptoRow : OpenClaim := { program := "ythbneddbigclfaa", sum := "fcb03de4111c821b6bc170b1c53c374d335e917936874ce9579b000b90d64ebe", func := "bazaar/bazaarlaw8.FrameTells", spec := "frameTells", unfollowed := true, recurses := true, apart := false, narrowed := true }
def FrameTellsUptoSaid : Prop := frameTellsUptoRow.holds Try.pinned (OpenSpec.upto frameTellsSpec)

/-- 'bazaarlaw8.FrameBuilt', WHERE WHAT IT READS IS OF BULK AT MOST 1048576: true; the input reads as it did. -/
def frameBuiltUptoRow : OpenClaim := { program := "ythbneddbigclfaa", sum := "fcb03de4111c821b6bc170b1c53c374d335e917936874ce9579b000b90d64ebe", func := "bazaar/bazaarlaw8.FrameBuilt", spec := "frameBuilt", unfollowed := true, recurses := true, apart := false, narrowed := true }
def FrameBuiltUptoSaid : Prop := frameBuiltUptoRow.holds Try.pinned (OpenSpec.upto frameBuiltSpec)

/-- 'bazaarlaw8.FrameCut', WHERE WHAT IT READS IS OF BULK AT MOST 1048576: true; the input reads as it did. -/
def frameCutUptoRow : OpenClaim := { program := "ythbneddbigclfaa", sum := "fcb03de4111c821b6bc170b1c53c374d335e917936874ce9579b000b90d64ebe", func := "bazaar/bazaarlaw8.FrameCut", spec := "frameCut", unfollowed := true, recurses := true, apart := false, narrowed := true }
def FrameCutUptoSaid : Prop := frameCutUptoRow.holds Try.pinned (OpenSpec.upto frameCutSpec)

/-- 'bazaarlaw8.FrameLayers', WHERE WHAT IT READS IS OF BULK AT MOST 1048576: true; the input reads as it did. -/
def frameLayersUptoRow : OpenClaim := { program := "ythbneddbigclfaa", sum := "fcb03de4111c821b6bc170b1c53c374d335e917936874ce9579b000b90d64ebe", func := "bazaar/bazaarlaw8.FrameLayers", spec := "frameLayers", unfollowed := true, recurses := true, apart := false, narrowed := true }
def FrameLayersUptoSaid : Prop := frameLayersUptoRow.holds Try.pinned (OpenSpec.upto frameLayersSpec)

/-- 'bazaarlaw8.FrameReasons', WHERE WHAT IT READS IS OF BULK AT MOST 1048576: true; the input reads as it did. -/
def frameReasonsUptoRow : OpenClaim := { program := "ythbneddbigclfaa", sum := "fcb03de4111c821b6bc170b1c53c374d335e917936874ce9579b000b90d64ebe", func := "bazaar/bazaarlaw8.FrameReasons", spec := "frameReasons", unfollowed := true, recurses := true, apart := false, narrowed := true }
def FrameReasonsUptoSaid : Prop := frameReasonsUptoRow.holds Try.pinned (OpenSpec.upto frameReasonsSpec)

end Rows
end Go.Proofs.Ythbneddbigclfaa
