/-
  No cell of these rows narrows 'for every input' (looked for: loops, veiled, ifaces, maps, wideKeys, modest, calm, conditions, laid).
  DERIVED. THE GIVEN ROWS OF THIS SEAT. 12 by the template 'for every input the law returns true; each argument reads behind the call as it read before'; 0 by the template 'total and deterministic' (their statements: YtpoigdkbblmpaaaTotals.lean).
  GIVEN WITH THE SEED: the statements are not yours to turn. If you find one false, say at which input.
  Laid BY PROGRAM, IN A SANDBOX (cutbox-rows.mjs): the forced cells as the released guide's own fill.sh prints them over the translation e7f1a42c69d609ee… (all of the seat's roots in one cut). By AI agents, Wed Nov 11 2026. No macro, syntax, notation, axiom, sorry.
-/
import Derived.Test.YtpoigdkbblmpaaaChecked
import GoSem.Claim
import GoSem.ClaimJoined
import GoSem.ClaimMapViews
import Derived.JoinedTies
import Derived.KernelRfl
namespace Go.Proofs.Ytpoigdkbblmpaaa
/- THE CELL 'sum', in the pinned program and in every row, IS THE sha256 OF THE DUMP (.gsa) THAT YtpoigdkbblmpaaaProg.lean LOADS. Nothing in Lean hashes anything: it is a label: what it is worth is what the hold of that sum in a sandbox is worth. -/
noncomputable def Try.pinned : Pinned := { name := "ytpoigdkbblmpaaa", sum := "e7f1a42c69d609eeb1112e8afb94282cc6bd9dd24d1ad2e5c682a5fde5203b8f", checked := Try.checked }
namespace Rows
def none {H : Type} : Left H := { results := [], args := [] }

/-- 'duetlaw06.VecAnswers': WHATEVER THE INPUT: true; the input reads as it did. -/
def vecAnswersSpec : ChangeSpec := { name := "vecAnswers", fn := fun _ => fun
  | [d] => { results := [.lit (.bool true)], args := [d] }
  | _ => none }
def vecAnswersRow : OpenClaim := { program := "ytpoigdkbblmpaaa", sum := "e7f1a42c69d609eeb1112e8afb94282cc6bd9dd24d1ad2e5c682a5fde5203b8f", func := "duet/duetlaw06.VecAnswers", spec := "vecAnswers", unfollowed := true, recurses := true, apart := false }
def VecAnswersSaid : Prop := vecAnswersRow.holds Try.pinned (OpenSpec.ofChange vecAnswersSpec)

/-- ITS FALSE NEIGHBOUR: 'it returns false'. Refute it at one input. -/
def vecAnswersWrong : ChangeSpec := { name := "vecAnswers", fn := fun _ => fun
  | [d] => { results := [.lit (.bool false)], args := [d] }
  | _ => none }
def VecAnswersWrongFalsely : Prop := vecAnswersRow.holds Try.pinned (OpenSpec.ofChange vecAnswersWrong)

/-- 'duetlaw06.VecLattice': WHATEVER THE INPUT: true; the input reads as it did. -/
def vecLatticeSpec : ChangeSpec := { name := "vecLattice", fn := fun _ => fun
  | [d1, d2, d3] => { results := [.lit (.bool true)], args := [d1, d2, d3] }
  | _ => none }
def vecLatticeRow : OpenClaim := { program := "ytpoigdkbblmpaaa", sum := "e7f1a42c69d609eeb1112e8afb94282cc6bd9dd24d1ad2e5c682a5fde5203b8f", func := "duet/duetlaw06.VecLattice", spec := "vecLattice", unfollowed := true, recurses := true, apart := false }
def VecLatticeSaid : Prop := vecLatticeRow.holds Try.pinned (OpenSpec.ofChange vecLatticeSpec)

/-- ITS FALSE NEIGHBOUR: 'it returns false'. Refute it at one input. -/
def vecLatticeWrong : ChangeSpec := { name := "vecLattice", fn := fun _ => fun
  | [d1, d2, d3] => { results := [.lit (.bool false)], args := [d1, d2, d3] }
  | _ => none }
def VecLatticeWrongFalsely : Prop := vecLatticeRow.holds Try.pinned (OpenSpec.ofChange vecLatticeWrong)

/-- 'duetlaw06.VecTicks': WHATEVER THE INPUT: true; the input reads as it did. -/
def vecTicksSpec : ChangeSpec := { name := "vecTicks", fn := fun _ => fun
  | [d1, d2] => { results := [.lit (.bool true)], args := [d1, d2] }
  | _ => none }
def vecTicksRow : OpenClaim := { program := "ytpoigdkbblmpaaa", sum := "e7f1a42c69d609eeb1112e8afb94282cc6bd9dd24d1ad2e5c682a5fde5203b8f", func := "duet/duetlaw06.VecTicks", spec := "vecTicks", unfollowed := true, recurses := true, apart := false }
def VecTicksSaid : Prop := vecTicksRow.holds Try.pinned (OpenSpec.ofChange vecTicksSpec)

/-- ITS FALSE NEIGHBOUR: 'it returns false'. Refute it at one input. -/
def vecTicksWrong : ChangeSpec := { name := "vecTicks", fn := fun _ => fun
  | [d1, d2] => { results := [.lit (.bool false)], args := [d1, d2] }
  | _ => none }
def VecTicksWrongFalsely : Prop := vecTicksRow.holds Try.pinned (OpenSpec.ofChange vecTicksWrong)

/-- 'duetlaw06.VecTurned': WHATEVER THE INPUT: true; the input reads as it did. -/
def vecTurnedSpec : ChangeSpec := { name := "vecTurned", fn := fun _ => fun
  | [d1, d2] => { results := [.lit (.bool true)], args := [d1, d2] }
  | _ => none }
def vecTurnedRow : OpenClaim := { program := "ytpoigdkbblmpaaa", sum := "e7f1a42c69d609eeb1112e8afb94282cc6bd9dd24d1ad2e5c682a5fde5203b8f", func := "duet/duetlaw06.VecTurned", spec := "vecTurned", unfollowed := true, recurses := true, apart := false }
def VecTurnedSaid : Prop := vecTurnedRow.holds Try.pinned (OpenSpec.ofChange vecTurnedSpec)

/-- ITS FALSE NEIGHBOUR: 'it returns false'. Refute it at one input. -/
def vecTurnedWrong : ChangeSpec := { name := "vecTurned", fn := fun _ => fun
  | [d1, d2] => { results := [.lit (.bool false)], args := [d1, d2] }
  | _ => none }
def VecTurnedWrongFalsely : Prop := vecTurnedRow.holds Try.pinned (OpenSpec.ofChange vecTurnedWrong)

/-- 'duetlaw06.VecCovers': WHATEVER THE INPUT: true; the input reads as it did. -/
def vecCoversSpec : ChangeSpec := { name := "vecCovers", fn := fun _ => fun
  | [d] => { results := [.lit (.bool true)], args := [d] }
  | _ => none }
def vecCoversRow : OpenClaim := { program := "ytpoigdkbblmpaaa", sum := "e7f1a42c69d609eeb1112e8afb94282cc6bd9dd24d1ad2e5c682a5fde5203b8f", func := "duet/duetlaw06.VecCovers", spec := "vecCovers", unfollowed := true, recurses := true, apart := false }
def VecCoversSaid : Prop := vecCoversRow.holds Try.pinned (OpenSpec.ofChange vecCoversSpec)

/-- ITS FALSE NEIGHBOUR: 'it returns false'. Refute it at one input. -/
def vecCoversWrong : ChangeSpec := { name := "vecCovers", fn := fun _ => fun
  | [d] => { results := [.lit (.bool false)], args := [d] }
  | _ => none }
def VecCoversWrongFalsely : Prop := vecCoversRow.holds Try.pinned (OpenSpec.ofChange vecCoversWrong)

/-- 'duetlaw06.VecZero': WHATEVER THE INPUT: true; the input reads as it did. -/
def vecZeroSpec : ChangeSpec := { name := "vecZero", fn := fun _ => fun
  | [d] => { results := [.lit (.bool true)], args := [d] }
  | _ => none }
def vecZeroRow : OpenClaim := { program := "ytpoigdkbblmpaaa", sum := "e7f1a42c69d609eeb1112e8afb94282cc6bd9dd24d1ad2e5c682a5fde5203b8f", func := "duet/duetlaw06.VecZero", spec := "vecZero", unfollowed := true, recurses := true, apart := false }
def VecZeroSaid : Prop := vecZeroRow.holds Try.pinned (OpenSpec.ofChange vecZeroSpec)

/-- ITS FALSE NEIGHBOUR: 'it returns false'. Refute it at one input. -/
def vecZeroWrong : ChangeSpec := { name := "vecZero", fn := fun _ => fun
  | [d] => { results := [.lit (.bool false)], args := [d] }
  | _ => none }
def VecZeroWrongFalsely : Prop := vecZeroRow.holds Try.pinned (OpenSpec.ofChange vecZeroWrong)

/-- 'duetlaw01.PackWrites': WHATEVER THE INPUT: true; the input reads as it did. -/
def packWritesSpec : ChangeSpec := { name := "packWrites", fn := fun _ => fun
  | [d1, d2, d3] => { results := [.lit (.bool true)], args := [d1, d2, d3] }
  | _ => none }
def packWritesRow : OpenClaim := { program := "ytpoigdkbblmpaaa", sum := "e7f1a42c69d609eeb1112e8afb94282cc6bd9dd24d1ad2e5c682a5fde5203b8f", func := "duet/duetlaw01.PackWrites", spec := "packWrites", apart := false }
def PackWritesSaid : Prop := packWritesRow.holds Try.pinned (OpenSpec.ofChange packWritesSpec)

/-- ITS FALSE NEIGHBOUR: 'it returns false'. Refute it at one input. -/
def packWritesWrong : ChangeSpec := { name := "packWrites", fn := fun _ => fun
  | [d1, d2, d3] => { results := [.lit (.bool false)], args := [d1, d2, d3] }
  | _ => none }
def PackWritesWrongFalsely : Prop := packWritesRow.holds Try.pinned (OpenSpec.ofChange packWritesWrong)

/-- 'duetlaw01.PackReads': WHATEVER THE INPUT: true; the input reads as it did. -/
def packReadsSpec : ChangeSpec := { name := "packReads", fn := fun _ => fun
  | [d] => { results := [.lit (.bool true)], args := [d] }
  | _ => none }
def packReadsRow : OpenClaim := { program := "ytpoigdkbblmpaaa", sum := "e7f1a42c69d609eeb1112e8afb94282cc6bd9dd24d1ad2e5c682a5fde5203b8f", func := "duet/duetlaw01.PackReads", spec := "packReads", apart := false }
def PackReadsSaid : Prop := packReadsRow.holds Try.pinned (OpenSpec.ofChange packReadsSpec)

/-- ITS FALSE NEIGHBOUR: 'it returns false'. Refute it at one input. -/
def packReadsWrong : ChangeSpec := { name := "packReads", fn := fun _ => fun
  | [d] => { results := [.lit (.bool false)], args := [d] }
  | _ => none }
def PackReadsWrongFalsely : Prop := packReadsRow.holds Try.pinned (OpenSpec.ofChange packReadsWrong)

/-- 'duetlaw01.PackBack': WHATEVER THE INPUT: true; the input reads as it did. -/
def packBackSpec : ChangeSpec := { name := "packBack", fn := fun _ => fun
  | [d1, d2, d3] => { results := [.lit (.bool true)], args := [d1, d2, d3] }
  | _ => none }
def packBackRow : OpenClaim := { program := "ytpoigdkbblmpaaa", sum := "e7f1a42c69d609eeb1112e8afb94282cc6bd9dd24d1ad2e5c682a5fde5203b8f", func := "duet/duetlaw01.PackBack", spec := "packBack", apart := false }
def PackBackSaid : Prop := packBackRow.holds Try.pinned (OpenSpec.ofChange packBackSpec)

/-- ITS FALSE NEIGHBOUR: 'it returns false'. Refute it at one input. -/
def packBackWrong : ChangeSpec := { name := "packBack", fn := fun _ => fun
  | [d1, d2, d3] => { results := [.lit (.bool false)], args := [d1, d2, d3] }
  | _ => none }
def PackBackWrongFalsely : Prop := packBackRow.holds Try.pinned (OpenSpec.ofChange packBackWrong)

/-- 'duetlaw01.PackAgain': WHATEVER THE INPUT: true; the input reads as it did. -/
def packAgainSpec : ChangeSpec := { name := "packAgain", fn := fun _ => fun
  | [d] => { results := [.lit (.bool true)], args := [d] }
  | _ => none }
def packAgainRow : OpenClaim := { program := "ytpoigdkbblmpaaa", sum := "e7f1a42c69d609eeb1112e8afb94282cc6bd9dd24d1ad2e5c682a5fde5203b8f", func := "duet/duetlaw01.PackAgain", spec := "packAgain", apart := false }
def PackAgainSaid : Prop := packAgainRow.holds Try.pinned (OpenSpec.ofChange packAgainSpec)

/-- ITS FALSE NEIGHBOUR: 'it returns false'. Refute it at one input. -/
def packAgainWrong : ChangeSpec := { name := "packAgain", fn := fun _ => fun
  | [d] => { results := [.lit (.bool false)], args := [d] }
  | _ => none }
def PackAgainWrongFalsely : Prop := packAgainRow.holds Try.pinned (OpenSpec.ofChange packAgainWrong)

/-- 'duetlaw01.PackOrder': WHATEVER THE INPUT: true; the input reads as it did. -/
def packOrderSpec : ChangeSpec := { name := "packOrder", fn := fun _ => fun
  | [d1, d2, d3] => { results := [.lit (.bool true)], args := [d1, d2, d3] }
  | _ => none }
def packOrderRow : OpenClaim := { program := "ytpoigdkbblmpaaa", sum := "e7f1a42c69d609eeb1112e8afb94282cc6bd9dd24d1ad2e5c682a5fde5203b8f", func := "duet/duetlaw01.PackOrder", spec := "packOrder", apart := false }
def PackOrderSaid : Prop := packOrderRow.holds Try.pinned (OpenSpec.ofChange packOrderSpec)

/-- ITS FALSE NEIGHBOUR: 'it returns false'. Refute it at one input. -/
def packOrderWrong : ChangeSpec := { name := "packOrder", fn := fun _ => fun
  | [d1, d2, d3] => { results := [.lit (.bool false)], args := [d1, d2, d3] }
  | _ => none }
def PackOrderWrongFalsely : Prop := packOrderRow.holds Try.pinned (OpenSpec.ofChange packOrderWrong)

/-- 'duetlaw01.PackSizes': WHATEVER THE INPUT: true; the input reads as it did. -/
def packSizesSpec : ChangeSpec := { name := "packSizes", fn := fun _ => fun
  | [d1, d2] => { results := [.lit (.bool true)], args := [d1, d2] }
  | _ => none }
def packSizesRow : OpenClaim := { program := "ytpoigdkbblmpaaa", sum := "e7f1a42c69d609eeb1112e8afb94282cc6bd9dd24d1ad2e5c682a5fde5203b8f", func := "duet/duetlaw01.PackSizes", spec := "packSizes", apart := false }
def PackSizesSaid : Prop := packSizesRow.holds Try.pinned (OpenSpec.ofChange packSizesSpec)

/-- ITS FALSE NEIGHBOUR: 'it returns false'. Refute it at one input. -/
def packSizesWrong : ChangeSpec := { name := "packSizes", fn := fun _ => fun
  | [d1, d2] => { results := [.lit (.bool false)], args := [d1, d2] }
  | _ => none }
def PackSizesWrongFalsely : Prop := packSizesRow.holds Try.pinned (OpenSpec.ofChange packSizesWrong)

/- THE SECOND FORM. 'bulk': how many values and letters a reading holds, each counted each time it is reached (what is shared counts as often as it is met; a slice's spare places count too). A statement '..UptoSaid' is the law's where the arguments, and the package variables that the reading takes, are together of bulk at most 1048576: NARROWER than '..Said'. Prove '..Said' where nothing that the law and all that it calls make is longer than what came in: it says more and counts as full. Else prove '..UptoSaid'. A law counts once. -/
mutual
def uptoBulk {H : Type} : DataW H → Nat
  | .lit (.string bytes) => bytes.length + 1
  | .lit _ => 1
  | .nil => 1
  | .ptr d => uptoBulk d + 1
  | .slice elems spare => uptoBulkAll elems + uptoBulkAll spare + 1
  | .agg parts => uptoBulkAll parts + 1
  | .iface _ d => uptoBulk d + 1
  | .map entries => uptoBulkEntries entries + 1
  | .held _ => 1
def uptoBulkAll {H : Type} : List (DataW H) → Nat
  | [] => 0
  | d :: r => uptoBulk d + uptoBulkAll r
def uptoBulkEntries {H : Type} : List (Lit × DataW H) → Nat
  | [] => 0
  | x :: r => uptoBulkEntry x + uptoBulkEntries r
def uptoBulkEntry {H : Type} : Lit × DataW H → Nat
  | (.string bytes, d) => bytes.length + uptoBulk d + 1
  | (_, d) => uptoBulk d + 1
 end
def uptoSmall : (H : Type) → List (DataW H) → Bool := fun _ ds => decide (uptoBulkAll ds ≤ 1048576)
def OpenSpec.upto (s : _root_.Go.ChangeSpec) : _root_.Go.OpenSpec := { _root_.Go.OpenSpec.ofChange s with cond := some uptoSmall }

/-- 'duetlaw06.VecAnswers', WHERE WHAT IT READS IS OF BULK AT MOST 1048576: true; the input reads as it did. -/
def vecAnswersUptoRow : OpenClaim := { program := "ytpoigdkbblmpaaa", sum := "e7f1a42c69d609eeb1112e8afb94282cc6bd9dd24d1ad2e5c682a5fde5203b8f", func := "duet/duetlaw06.VecAnswers", spec := "vecAnswers", unfollowed := true, recurses := true, apart := false, narrowed := true }
def VecAnswersUptoSaid : Prop := vecAnswersUptoRow.holds Try.pinned (OpenSpec.upto vecAnswersSpec)

/-- 'duetlaw06.VecLattice', WHERE WHAT IT READS IS OF BULK AT MOST 1048576: true; the input reads as it did. -/
def vecLatticeUptoRow : OpenClaim := { program := "ytpoigdkbblmpaaa", sum := "e7f1a42c69d609eeb1112e8afb94282cc6bd9dd24d1ad2e5c682a5fde5203b8f", func := "duet/duetlaw06.VecLattice", spec := "vecLattice", unfollowed := true, recurses := true, apart := false, narrowed := true }
def VecLatticeUptoSaid : Prop := vecLatticeUptoRow.holds Try.pinned (OpenSpec.upto vecLatticeSpec)

/-- 'duetlaw06.VecTicks', WHERE WHAT IT READS IS OF BULK AT MOST 1048576: true; the input reads as it did. -/
def vecTicksUptoRow : OpenClaim := { program := "ytpoigdkbblmpaaa", sum := "e7f1a42c69d609eeb1112e8afb94282cc6bd9dd24d1ad2e5c682a5fde5203b8f", func := "duet/duetlaw06.VecTicks", spec := "vecTicks", unfollowed := true, recurses := true, apart := false, narrowed := true }
def VecTicksUptoSaid : Prop := vecTicksUptoRow.holds Try.pinned (OpenSpec.upto vecTicksSpec)

/-- 'duetlaw06.VecTurned', WHERE WHAT IT READS IS OF BULK AT MOST 1048576: true; the input reads as it did. -/
def vecTurnedUptoRow : OpenClaim := { program := "ytpoigdkbblmpaaa", sum := "e7f1a42c69d609eeb1112e8afb94282cc6bd9dd24d1ad2e5c682a5fde5203b8f", func := "duet/duetlaw06.VecTurned", spec := "vecTurned", unfollowed := true, recurses := true, apart := false, narrowed := true }
def VecTurnedUptoSaid : Prop := vecTurnedUptoRow.holds Try.pinned (OpenSpec.upto vecTurnedSpec)

/-- 'duetlaw06.VecCovers', WHERE WHAT IT READS IS OF BULK AT MOST 1048576: true; the input reads as it did. -/
def vecCoversUptoRow : OpenClaim := { program := "ytpoigdkbblmpaaa", sum := "e7f1a42c69d609eeb1112e8afb94282cc6bd9dd24d1ad2e5c682a5fde5203b8f", func := "duet/duetlaw06.VecCovers", spec := "vecCovers", unfollowed := true, recurses := true, apart := false, narrowed := true }
def VecCoversUptoSaid : Prop := vecCoversUptoRow.holds Try.pinned (OpenSpec.upto vecCoversSpec)

/-- 'duetlaw06.VecZero', WHERE WHAT IT READS IS OF BULK AT MOST 1048576: true; the input reads as it did. -/
def vecZeroUptoRow : OpenClaim := { program := "ytpoigdkbblmpaaa", sum := "e7f1a42c69d609eeb1112e8afb94282cc6bd9dd24d1ad2e5c682a5fde5203b8f", func := "duet/duetlaw06.VecZero", spec := "vecZero", unfollowed := true, recurses := true, apart := false, narrowed := true }
def VecZeroUptoSaid : Prop := vecZeroUptoRow.holds Try.pinned (OpenSpec.upto vecZeroSpec)

/-- 'duetlaw01.PackWrites', WHERE WHAT IT READS IS OF BULK AT MOST 1048576: true; the input reads as it did. -/
def packWritesUptoRow : OpenClaim := { program := "ytpoigdkbblmpaaa", sum := "e7f1a42c69d609eeb1112e8afb94282cc6bd9dd24d1ad2e5c682a5fde5203b8f", func := "duet/duetlaw01.PackWrites", spec := "packWrites", apart := false, narrowed := true }
def PackWritesUptoSaid : Prop := packWritesUptoRow.holds Try.pinned (OpenSpec.upto packWritesSpec)

/-- 'duetlaw01.PackReads', WHERE WHAT IT READS IS OF BULK AT MOST 1048576: true; the input reads as it did. -/
def packReadsUptoRow : OpenClaim := { program := "ytpoigdkbblmpaaa", sum := "e7f1a42c69d609eeb1112e8afb94282cc6bd9dd24d1ad2e5c682a5fde5203b8f", func := "duet/duetlaw01.PackReads", spec := "packReads", apart := false, narrowed := true }
def PackReadsUptoSaid : Prop := packReadsUptoRow.holds Try.pinned (OpenSpec.upto packReadsSpec)

/-- 'duetlaw01.PackBack', WHERE WHAT IT READS IS OF BULK AT MOST 1048576: true; the input reads as it did. -/
def packBackUptoRow : OpenClaim := { program := "ytpoigdkbblmpaaa", sum := "e7f1a42c69d609eeb1112e8afb94282cc6bd9dd24d1ad2e5c682a5fde5203b8f", func := "duet/duetlaw01.PackBack", spec := "packBack", apart := false, narrowed := true }
def PackBackUptoSaid : Prop := packBackUptoRow.holds Try.pinned (OpenSpec.upto packBackSpec)

/-- 'duetlaw01.PackAgain', WHERE WHAT IT READS IS OF BULK AT MOST 1048576: true; the input reads as it did. -/
def packAgainUptoRow : OpenClaim := { program := "ytpoigdkbblmpaaa", sum := "e7f1a42c69d609eeb1112e8afb94282cc6bd9dd24d1ad2e5c682a5fde5203b8f", func := "duet/duetlaw01.PackAgain", spec := "packAgain", apart := false, narrowed := true }
def PackAgainUptoSaid : Prop := packAgainUptoRow.holds Try.pinned (OpenSpec.upto packAgainSpec)

/-- 'duetlaw01.PackOrder', WHERE WHAT IT READS IS OF BULK AT MOST 1048576: true; the input reads as it did. -/
def packOrderUptoRow : OpenClaim := { program := "ytpoigdkbblmpaaa", sum := "e7f1a42c69d609eeb1112e8afb94282cc6bd9dd24d1ad2e5c682a5fde5203b8f", func := "duet/duetlaw01.PackOrder", spec := "packOrder", apart := false, narrowed := true }
def PackOrderUptoSaid : Prop := packOrderUptoRow.holds Try.pinned (OpenSpec.upto packOrderSpec)

/-- 'duetlaw01.PackSizes', WHERE WHAT IT READS IS OF BULK AT MOST 1048576: true; the input reads as it did. -/
def packSizesUptoRow : OpenClaim := { program := "ytpoigdkbblmpaaa", sum := "e7f1a42c69d609eeb1112e8afb94282cc6bd9dd24d1ad2e5c682a5fde5203b8f", func := "duet/duetlaw01.PackSizes", spec := "packSizes", apart := false, narrowed := true }
def PackSizesUptoSaid : Prop := packSizesUptoRow.holds Try.pinned (OpenSpec.upto packSizesSpec)

end Rows
end Go.Proofs.Ytpoigdkbblmpaaa
