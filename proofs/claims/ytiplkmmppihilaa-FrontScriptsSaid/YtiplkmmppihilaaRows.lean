/-
  No cell of these rows narrows 'for every input' (looked for: loops, veiled, ifaces, maps, wideKeys, modest, calm, conditions, laid).
  DERIVED. THE GIVEN ROWS OF THIS SEAT. 12 by the template 'for every input the law returns true; each argument reads behind the call as it read before'; 0 by the template 'total and deterministic' (their statements: YtiplkmmppihilaaTotals.lean).
  GIVEN WITH THE SEED: the statements are not yours to turn. If you find one false, say at which input.
  Laid BY PROGRAM, IN A SANDBOX (cutbox-rows.mjs): the forced cells as the released guide's own fill.sh prints them over the translation 2a0499d28b7ec23b… (all of the seat's roots in one cut). By AI agents, Wed Nov 11 2026. No macro, syntax, notation, axiom, sorry.
-/
import Derived.Test.YtiplkmmppihilaaChecked
import GoSem.Claim
import GoSem.ClaimJoined
import GoSem.ClaimMapViews
import Derived.JoinedTies
import Derived.KernelRfl
namespace Go.Proofs.Ytiplkmmppihilaa
/- THE CELL 'sum', in the pinned program and in every row, IS THE sha256 OF THE DUMP (.gsa) THAT YtiplkmmppihilaaProg.lean LOADS. Nothing in Lean hashes anything: it is a label: what it is worth is what the hold of that sum in a sandbox is worth. -/
noncomputable def Try.pinned : Pinned := { name := "ytiplkmmppihilaa", sum := "2a0499d28b7ec23b832a434b4f2d0dcd0e2fec5aa4ba6834df1a423d60e5a717", checked := Try.checked }
namespace Rows
def none {H : Type} : Left H := { results := [], args := [] }

/-- 'duetlaw16.PastLogs': WHATEVER THE INPUT: true; the input reads as it did. -/
def pastLogsSpec : ChangeSpec := { name := "pastLogs", fn := fun _ => fun
  | [d1, d2] => { results := [.lit (.bool true)], args := [d1, d2] }
  | _ => none }
def pastLogsRow : OpenClaim := { program := "ytiplkmmppihilaa", sum := "2a0499d28b7ec23b832a434b4f2d0dcd0e2fec5aa4ba6834df1a423d60e5a717", func := "duet/duetlaw16.PastLogs", spec := "pastLogs", unfollowed := true, recurses := true, apart := false }
def PastLogsSaid : Prop := pastLogsRow.holds Try.pinned (OpenSpec.ofChange pastLogsSpec)

/-- ITS FALSE NEIGHBOUR: 'it returns false'. Refute it at one input. -/
def pastLogsWrong : ChangeSpec := { name := "pastLogs", fn := fun _ => fun
  | [d1, d2] => { results := [.lit (.bool false)], args := [d1, d2] }
  | _ => none }
def PastLogsWrongFalsely : Prop := pastLogsRow.holds Try.pinned (OpenSpec.ofChange pastLogsWrong)

/-- 'duetlaw16.PastPrefix': WHATEVER THE INPUT: true; the input reads as it did. -/
def pastPrefixSpec : ChangeSpec := { name := "pastPrefix", fn := fun _ => fun
  | [d1, d2] => { results := [.lit (.bool true)], args := [d1, d2] }
  | _ => none }
def pastPrefixRow : OpenClaim := { program := "ytiplkmmppihilaa", sum := "2a0499d28b7ec23b832a434b4f2d0dcd0e2fec5aa4ba6834df1a423d60e5a717", func := "duet/duetlaw16.PastPrefix", spec := "pastPrefix", unfollowed := true, recurses := true, apart := false }
def PastPrefixSaid : Prop := pastPrefixRow.holds Try.pinned (OpenSpec.ofChange pastPrefixSpec)

/-- ITS FALSE NEIGHBOUR: 'it returns false'. Refute it at one input. -/
def pastPrefixWrong : ChangeSpec := { name := "pastPrefix", fn := fun _ => fun
  | [d1, d2] => { results := [.lit (.bool false)], args := [d1, d2] }
  | _ => none }
def PastPrefixWrongFalsely : Prop := pastPrefixRow.holds Try.pinned (OpenSpec.ofChange pastPrefixWrong)

/-- 'duetlaw16.PastWhere': WHATEVER THE INPUT: true; the input reads as it did. -/
def pastWhereSpec : ChangeSpec := { name := "pastWhere", fn := fun _ => fun
  | [d] => { results := [.lit (.bool true)], args := [d] }
  | _ => none }
def pastWhereRow : OpenClaim := { program := "ytiplkmmppihilaa", sum := "2a0499d28b7ec23b832a434b4f2d0dcd0e2fec5aa4ba6834df1a423d60e5a717", func := "duet/duetlaw16.PastWhere", spec := "pastWhere", unfollowed := true, recurses := true, apart := false }
def PastWhereSaid : Prop := pastWhereRow.holds Try.pinned (OpenSpec.ofChange pastWhereSpec)

/-- ITS FALSE NEIGHBOUR: 'it returns false'. Refute it at one input. -/
def pastWhereWrong : ChangeSpec := { name := "pastWhere", fn := fun _ => fun
  | [d] => { results := [.lit (.bool false)], args := [d] }
  | _ => none }
def PastWhereWrongFalsely : Prop := pastWhereRow.holds Try.pinned (OpenSpec.ofChange pastWhereWrong)

/-- 'duetlaw16.PastNil': WHATEVER THE INPUT: true; the input reads as it did. -/
def pastNilSpec : ChangeSpec := { name := "pastNil", fn := fun _ => fun
  | [d1, d2] => { results := [.lit (.bool true)], args := [d1, d2] }
  | _ => none }
def pastNilRow : OpenClaim := { program := "ytiplkmmppihilaa", sum := "2a0499d28b7ec23b832a434b4f2d0dcd0e2fec5aa4ba6834df1a423d60e5a717", func := "duet/duetlaw16.PastNil", spec := "pastNil", unfollowed := true, recurses := true, apart := false }
def PastNilSaid : Prop := pastNilRow.holds Try.pinned (OpenSpec.ofChange pastNilSpec)

/-- ITS FALSE NEIGHBOUR: 'it returns false'. Refute it at one input. -/
def pastNilWrong : ChangeSpec := { name := "pastNil", fn := fun _ => fun
  | [d1, d2] => { results := [.lit (.bool false)], args := [d1, d2] }
  | _ => none }
def PastNilWrongFalsely : Prop := pastNilRow.holds Try.pinned (OpenSpec.ofChange pastNilWrong)

/-- 'duetlaw16.PastGrows': WHATEVER THE INPUT: true; the input reads as it did. -/
def pastGrowsSpec : ChangeSpec := { name := "pastGrows", fn := fun _ => fun
  | [d1, d2] => { results := [.lit (.bool true)], args := [d1, d2] }
  | _ => none }
def pastGrowsRow : OpenClaim := { program := "ytiplkmmppihilaa", sum := "2a0499d28b7ec23b832a434b4f2d0dcd0e2fec5aa4ba6834df1a423d60e5a717", func := "duet/duetlaw16.PastGrows", spec := "pastGrows", unfollowed := true, recurses := true, apart := false }
def PastGrowsSaid : Prop := pastGrowsRow.holds Try.pinned (OpenSpec.ofChange pastGrowsSpec)

/-- ITS FALSE NEIGHBOUR: 'it returns false'. Refute it at one input. -/
def pastGrowsWrong : ChangeSpec := { name := "pastGrows", fn := fun _ => fun
  | [d1, d2] => { results := [.lit (.bool false)], args := [d1, d2] }
  | _ => none }
def PastGrowsWrongFalsely : Prop := pastGrowsRow.holds Try.pinned (OpenSpec.ofChange pastGrowsWrong)

/-- 'duetlaw16.PastTurned': WHATEVER THE INPUT: true; the input reads as it did. -/
def pastTurnedSpec : ChangeSpec := { name := "pastTurned", fn := fun _ => fun
  | [d1, d2, d3] => { results := [.lit (.bool true)], args := [d1, d2, d3] }
  | _ => none }
def pastTurnedRow : OpenClaim := { program := "ytiplkmmppihilaa", sum := "2a0499d28b7ec23b832a434b4f2d0dcd0e2fec5aa4ba6834df1a423d60e5a717", func := "duet/duetlaw16.PastTurned", spec := "pastTurned", unfollowed := true, recurses := true, apart := false }
def PastTurnedSaid : Prop := pastTurnedRow.holds Try.pinned (OpenSpec.ofChange pastTurnedSpec)

/-- ITS FALSE NEIGHBOUR: 'it returns false'. Refute it at one input. -/
def pastTurnedWrong : ChangeSpec := { name := "pastTurned", fn := fun _ => fun
  | [d1, d2, d3] => { results := [.lit (.bool false)], args := [d1, d2, d3] }
  | _ => none }
def PastTurnedWrongFalsely : Prop := pastTurnedRow.holds Try.pinned (OpenSpec.ofChange pastTurnedWrong)

/-- 'duetlaw16.PastOne': WHATEVER THE INPUT: true; the input reads as it did. -/
def pastOneSpec : ChangeSpec := { name := "pastOne", fn := fun _ => fun
  | [d] => { results := [.lit (.bool true)], args := [d] }
  | _ => none }
def pastOneRow : OpenClaim := { program := "ytiplkmmppihilaa", sum := "2a0499d28b7ec23b832a434b4f2d0dcd0e2fec5aa4ba6834df1a423d60e5a717", func := "duet/duetlaw16.PastOne", spec := "pastOne", unfollowed := true, recurses := true, apart := false }
def PastOneSaid : Prop := pastOneRow.holds Try.pinned (OpenSpec.ofChange pastOneSpec)

/-- ITS FALSE NEIGHBOUR: 'it returns false'. Refute it at one input. -/
def pastOneWrong : ChangeSpec := { name := "pastOne", fn := fun _ => fun
  | [d] => { results := [.lit (.bool false)], args := [d] }
  | _ => none }
def PastOneWrongFalsely : Prop := pastOneRow.holds Try.pinned (OpenSpec.ofChange pastOneWrong)

/-- 'duetlaw09.FrontScripts': WHATEVER THE INPUT: true; the input reads as it did. -/
def frontScriptsSpec : ChangeSpec := { name := "frontScripts", fn := fun _ => fun
  | [d1, d2, d3] => { results := [.lit (.bool true)], args := [d1, d2, d3] }
  | _ => none }
def frontScriptsRow : OpenClaim := { program := "ytiplkmmppihilaa", sum := "2a0499d28b7ec23b832a434b4f2d0dcd0e2fec5aa4ba6834df1a423d60e5a717", func := "duet/duetlaw09.FrontScripts", spec := "frontScripts", unfollowed := true, recurses := true, apart := false }
def FrontScriptsSaid : Prop := frontScriptsRow.holds Try.pinned (OpenSpec.ofChange frontScriptsSpec)

/-- ITS FALSE NEIGHBOUR: 'it returns false'. Refute it at one input. -/
def frontScriptsWrong : ChangeSpec := { name := "frontScripts", fn := fun _ => fun
  | [d1, d2, d3] => { results := [.lit (.bool false)], args := [d1, d2, d3] }
  | _ => none }
def FrontScriptsWrongFalsely : Prop := frontScriptsRow.holds Try.pinned (OpenSpec.ofChange frontScriptsWrong)

/-- 'duetlaw09.FrontNil': WHATEVER THE INPUT: true; the input reads as it did. -/
def frontNilSpec : ChangeSpec := { name := "frontNil", fn := fun _ => fun
  | [d] => { results := [.lit (.bool true)], args := [d] }
  | _ => none }
def frontNilRow : OpenClaim := { program := "ytiplkmmppihilaa", sum := "2a0499d28b7ec23b832a434b4f2d0dcd0e2fec5aa4ba6834df1a423d60e5a717", func := "duet/duetlaw09.FrontNil", spec := "frontNil", unfollowed := true, recurses := true, apart := false }
def FrontNilSaid : Prop := frontNilRow.holds Try.pinned (OpenSpec.ofChange frontNilSpec)

/-- ITS FALSE NEIGHBOUR: 'it returns false'. Refute it at one input. -/
def frontNilWrong : ChangeSpec := { name := "frontNil", fn := fun _ => fun
  | [d] => { results := [.lit (.bool false)], args := [d] }
  | _ => none }
def FrontNilWrongFalsely : Prop := frontNilRow.holds Try.pinned (OpenSpec.ofChange frontNilWrong)

/-- 'duetlaw09.FrontOnward': WHATEVER THE INPUT: true; the input reads as it did. -/
def frontOnwardSpec : ChangeSpec := { name := "frontOnward", fn := fun _ => fun
  | [d1, d2] => { results := [.lit (.bool true)], args := [d1, d2] }
  | _ => none }
def frontOnwardRow : OpenClaim := { program := "ytiplkmmppihilaa", sum := "2a0499d28b7ec23b832a434b4f2d0dcd0e2fec5aa4ba6834df1a423d60e5a717", func := "duet/duetlaw09.FrontOnward", spec := "frontOnward", unfollowed := true, recurses := true, apart := false }
def FrontOnwardSaid : Prop := frontOnwardRow.holds Try.pinned (OpenSpec.ofChange frontOnwardSpec)

/-- ITS FALSE NEIGHBOUR: 'it returns false'. Refute it at one input. -/
def frontOnwardWrong : ChangeSpec := { name := "frontOnward", fn := fun _ => fun
  | [d1, d2] => { results := [.lit (.bool false)], args := [d1, d2] }
  | _ => none }
def FrontOnwardWrongFalsely : Prop := frontOnwardRow.holds Try.pinned (OpenSpec.ofChange frontOnwardWrong)

/-- 'duetlaw09.FrontOne': WHATEVER THE INPUT: true; the input reads as it did. -/
def frontOneSpec : ChangeSpec := { name := "frontOne", fn := fun _ => fun
  | [d1, d2, d3] => { results := [.lit (.bool true)], args := [d1, d2, d3] }
  | _ => none }
def frontOneRow : OpenClaim := { program := "ytiplkmmppihilaa", sum := "2a0499d28b7ec23b832a434b4f2d0dcd0e2fec5aa4ba6834df1a423d60e5a717", func := "duet/duetlaw09.FrontOne", spec := "frontOne", unfollowed := true, recurses := true, apart := false }
def FrontOneSaid : Prop := frontOneRow.holds Try.pinned (OpenSpec.ofChange frontOneSpec)

/-- ITS FALSE NEIGHBOUR: 'it returns false'. Refute it at one input. -/
def frontOneWrong : ChangeSpec := { name := "frontOne", fn := fun _ => fun
  | [d1, d2, d3] => { results := [.lit (.bool false)], args := [d1, d2, d3] }
  | _ => none }
def FrontOneWrongFalsely : Prop := frontOneRow.holds Try.pinned (OpenSpec.ofChange frontOneWrong)

/-- 'duetlaw09.FrontAll': WHATEVER THE INPUT: true; the input reads as it did. -/
def frontAllSpec : ChangeSpec := { name := "frontAll", fn := fun _ => fun
  | [d] => { results := [.lit (.bool true)], args := [d] }
  | _ => none }
def frontAllRow : OpenClaim := { program := "ytiplkmmppihilaa", sum := "2a0499d28b7ec23b832a434b4f2d0dcd0e2fec5aa4ba6834df1a423d60e5a717", func := "duet/duetlaw09.FrontAll", spec := "frontAll", unfollowed := true, recurses := true, apart := false }
def FrontAllSaid : Prop := frontAllRow.holds Try.pinned (OpenSpec.ofChange frontAllSpec)

/-- ITS FALSE NEIGHBOUR: 'it returns false'. Refute it at one input. -/
def frontAllWrong : ChangeSpec := { name := "frontAll", fn := fun _ => fun
  | [d] => { results := [.lit (.bool false)], args := [d] }
  | _ => none }
def FrontAllWrongFalsely : Prop := frontAllRow.holds Try.pinned (OpenSpec.ofChange frontAllWrong)

/- THE SECOND FORM. 'bulk': how many values and letters a reading holds, each counted each time it is reached (what is shared counts as often as it is met; a slice's spare places count too). A statement '..UptoSaid' is the law's where the arguments, and the package variables that the reading takes, are together of bulk at most 1048576: NARROWER than '..Said'. Prove '..Said' where nothing that the law and all that it calls make is longer than what came in: it says more and counts as full. Else prove '..UptoSaid'. A law counts once. -/
mutual
def uptoBulk {H : Type} : DataW H → Nat
  | .lit (.string bytes) => bytes.length + 1
  | .lit _ => 1
  | .nil => 1
  | .ptr d => uptoBulk d + 1
  | .slice elems spare => uptoBulkAll elems + uptoBulkAll spare + 1
  | .agg parts => uptoBulkAll parts + 1
  | .iface _ d => uptoBulk d + 1
  | .map entries => uptoBulkEntries entries + 1
  | .held _ => 1
def uptoBulkAll {H : Type} : List (DataW H) → Nat
  | [] => 0
  | d :: r => uptoBulk d + uptoBulkAll r
def uptoBulkEntries {H : Type} : List (Lit × DataW H) → Nat
  | [] => 0
  | x :: r => uptoBulkEntry x + uptoBulkEntries r
def uptoBulkEntry {H : Type} : Lit × DataW H → Nat
  | (.string bytes, d) => bytes.length + uptoBulk d + 1
  | (_, d) => uptoBulk d + 1
 end
def uptoSmall : (H : Type) → List (DataW H) → Bool := fun _ ds => decide (uptoBulkAll ds ≤ 1048576)
def OpenSpec.upto (s : _root_.Go.ChangeSpec) : _root_.Go.OpenSpec := { _root_.Go.OpenSpec.ofChange s with cond := some uptoSmall }

/-- 'duetlaw16.PastLogs', WHERE WHAT IT READS IS OF BULK AT MOST 1048576: true; the input reads as it did. -/
def pastLogsUptoRow : OpenClaim := { program := "ytiplkmmppihilaa", sum := "2a0499d28b7ec23b832a434b4f2d0dcd0e2fec5aa4ba6834df1a423d60e5a717", func := "duet/duetlaw16.PastLogs", spec := "pastLogs", unfollowed := true, recurses := true, apart := false, narrowed := true }
def PastLogsUptoSaid : Prop := pastLogsUptoRow.holds Try.pinned (OpenSpec.upto pastLogsSpec)

/-- 'duetlaw16.PastPrefix', WHERE WHAT IT READS IS OF BULK AT MOST 1048576: true; the input reads as it did. -/
def pastPrefixUptoRow : OpenClaim := { program := "ytiplkmmppihilaa", sum := "2a0499d28b7ec23b832a434b4f2d0dcd0e2fec5aa4ba6834df1a423d60e5a717", func := "duet/duetlaw16.PastPrefix", spec := "pastPrefix", unfollowed := true, recurses := true, apart := false, narrowed := true }
def PastPrefixUptoSaid : Prop := pastPrefixUptoRow.holds Try.pinned (OpenSpec.upto pastPrefixSpec)

/-- 'duetlaw16.PastWhere', WHERE WHAT IT READS IS OF BULK AT MOST 1048576: true; the input reads as it did. -/
def pastWhereUptoRow : OpenClaim := { program := "ytiplkmmppihilaa", sum := "2a0499d28b7ec23b832a434b4f2d0dcd0e2fec5aa4ba6834df1a423d60e5a717", func := "duet/duetlaw16.PastWhere", spec := "pastWhere", unfollowed := true, recurses := true, apart := false, narrowed := true }
def PastWhereUptoSaid : Prop := pastWhereUptoRow.holds Try.pinned (OpenSpec.upto pastWhereSpec)

/-- 'duetlaw16.PastNil', WHERE WHAT IT READS IS OF BULK AT MOST 1048576: true; the input reads as it did. -/
def pastNilUptoRow : OpenClaim := { program := "ytiplkmmppihilaa", sum := "2a0499d28b7ec23b832a434b4f2d0dcd0e2fec5aa4ba6834df1a423d60e5a717", func := "duet/duetlaw16.PastNil", spec := "pastNil", unfollowed := true, recurses := true, apart := false, narrowed := true }
def PastNilUptoSaid : Prop := pastNilUptoRow.holds Try.pinned (OpenSpec.upto pastNilSpec)

/-- 'duetlaw16.PastGrows', WHERE WHAT IT READS IS OF BULK AT MOST 1048576: true; the input reads as it did. -/
def pastGrowsUptoRow : OpenClaim := { program := "ytiplkmmppihilaa", sum := "2a0499d28b7ec23b832a434b4f2d0dcd0e2fec5aa4ba6834df1a423d60e5a717", func := "duet/duetlaw16.PastGrows", spec := "pastGrows", unfollowed := true, recurses := true, apart := false, narrowed := true }
def PastGrowsUptoSaid : Prop := pastGrowsUptoRow.holds Try.pinned (OpenSpec.upto pastGrowsSpec)

/-- 'duetlaw16.PastTurned', WHERE WHAT IT READS IS OF BULK AT MOST 1048576: true; the input reads as it did. -/
def pastTurnedUptoRow : OpenClaim := { program := "ytiplkmmppihilaa", sum := "2a0499d28b7ec23b832a434b4f2d0dcd0e2fec5aa4ba6834df1a423d60e5a717", func := "duet/duetlaw16.PastTurned", spec := "pastTurned", unfollowed := true, recurses := true, apart := false, narrowed := true }
def PastTurnedUptoSaid : Prop := pastTurnedUptoRow.holds Try.pinned (OpenSpec.upto pastTurnedSpec)

/-- 'duetlaw16.PastOne', WHERE WHAT IT READS IS OF BULK AT MOST 1048576: true; the input reads as it did. -/
def pastOneUptoRow : OpenClaim := { program := "ytiplkmmppihilaa", sum := "2a0499d28b7ec23b832a434b4f2d0dcd0e2fec5aa4ba6834df1a423d60e5a717", func := "duet/duetlaw16.PastOne", spec := "pastOne", unfollowed := true, recurses := true, apart := false, narrowed := true }
def PastOneUptoSaid : Prop := pastOneUptoRow.holds Try.pinned (OpenSpec.upto pastOneSpec)

/-- 'duetlaw09.FrontScripts', WHERE WHAT IT READS IS OF BULK AT MOST 1048576: true; the input reads as it did. -/
def frontScriptsUptoRow : OpenClaim := { program := "ytiplkmmppihilaa", sum := "2a0499d28b7ec23b832a434b4f2d0dcd0e2fec5aa4ba6834df1a423d60e5a717", func := "duet/duetlaw09.FrontScripts", spec := "frontScripts", unfollowed := true, recurses := true, apart := false, narrowed := true }
def FrontScriptsUptoSaid : Prop := frontScriptsUptoRow.holds Try.pinned (OpenSpec.upto frontScriptsSpec)

/-- 'duetlaw09.FrontNil', WHERE WHAT IT READS IS OF BULK AT MOST 1048576: true; the input reads as it did. -/
def frontNilUptoRow : OpenClaim := { program := "ytiplkmmppihilaa", sum := "2a0499d28b7ec23b832a434b4f2d0dcd0e2fec5aa4ba6834df1a423d60e5a717", func := "duet/duetlaw09.FrontNil", spec := "frontNil", unfollowed := true, recurses := true, apart := false, narrowed := true }
def FrontNilUptoSaid : Prop := frontNilUptoRow.holds Try.pinned (OpenSpec.upto frontNilSpec)

/-- 'duetlaw09.FrontOnward', WHERE WHAT IT READS IS OF BULK AT MOST 1048576: true; the input reads as it did. -/
def frontOnwardUptoRow : OpenClaim := { program := "ytiplkmmppihilaa", sum := "2a0499d28b7ec23b832a434b4f2d0dcd0e2fec5aa4ba6834df1a423d60e5a717", func := "duet/duetlaw09.FrontOnward", spec := "frontOnward", unfollowed := true, recurses := true, apart := false, narrowed := true }
def FrontOnwardUptoSaid : Prop := frontOnwardUptoRow.holds Try.pinned (OpenSpec.upto frontOnwardSpec)

/-- 'duetlaw09.FrontOne', WHERE WHAT IT READS IS OF BULK AT MOST 1048576: true; the input reads as it did. -/
def frontOneUptoRow : OpenClaim := { program := "ytiplkmmppihilaa", sum := "2a0499d28b7ec23b832a434b4f2d0dcd0e2fec5aa4ba6834df1a423d60e5a717", func := "duet/duetlaw09.FrontOne", spec := "frontOne", unfollowed := true, recurses := true, apart := false, narrowed := true }
def FrontOneUptoSaid : Prop := frontOneUptoRow.holds Try.pinned (OpenSpec.upto frontOneSpec)

/-- 'duetlaw09.FrontAll', WHERE WHAT IT READS IS OF BULK AT MOST 1048576: true; the input reads as it did. -/
def frontAllUptoRow : OpenClaim := { program := "ytiplkmmppihilaa", sum := "2a0499d28b7ec23b832a434b4f2d0dcd0e2fec5aa4ba6834df1a423d60e5a717", func := "duet/duetlaw09.FrontAll", spec := "frontAll", unfollowed := true, recurses := true, apart := false, narrowed := true }
def FrontAllUptoSaid : Prop := frontAllUptoRow.holds Try.pinned (OpenSpec.upto frontAllSpec)

end Rows
end Go.Proofs.Ytiplkmmppihilaa
