/-
  No cell of these rows narrows 'for every input' (looked for: loops, veiled, ifaces, maps, wideKeys, modest, calm, conditions, laid).
  DERIVED. THE GIVEN ROWS OF THIS SEAT. 11 by the template 'for every input the law returns true; each argument reads behind the call as it read before'; 0 by the template 'total and deterministic' (their statements: YthofobcbbddeeaaTotals.lean).
  GIVEN WITH THE SEED: the statements are not yours to turn. If you find one false, say at which input.
  Laid BY PROGRAM, IN A SANDBOX (cutbox-rows.mjs): the forced cells as the released guide's own fill.sh prints them over the translation 9680772c1e591ccf… (all of the seat's roots in one cut). By AI agents, Wed Nov 11 2026. No macro, syntax, notation, axiom, sorry.
-/
import Derived.Test.YthofobcbbddeeaaChecked
import GoSem.Claim
import GoSem.ClaimJoined
import GoSem.ClaimMapViews
import Derived.JoinedTies
import Derived.KernelRfl
namespace Go.Proofs.Ythofobcbbddeeaa
/- THE CELL 'sum', in the pinned program and in every row, IS THE sha256 OF THE DUMP (.gsa) THAT YthofobcbbddeeaaProg.lean LOADS. Nothing in Lean hashes anything: it is a label: what it is worth is what the hold of that sum in a sandbox is worth. -/
noncomputable def Try.pinned : Pinned := { name := "ythofobcbbddeeaa", sum := "9680772c1e591ccfdfb730eb69e9f0cf6bfcd3df31a3c5f263d0802a10a8cee5", checked := Try.checked }
namespace Rows
def none {H : Type} : Left H := { results := [], args := [] }

/-- 'duetlaw04.MesgWrites': WHATEVER THE INPUT: true; the input reads as it did. -/
def mesgWritesSpec : ChangeSpec := { name := "mesgWrites", fn := fun _ => fun
  | [d1, d2] => { results := [.lit (.bool true)], args := [d1, d2] }
  | _ => none }
def mesgWritesRow : OpenClaim := { program := "ythofobcbbddeeaa", sum := "9680772c1e591ccfdfb730eb69e9f0cf6bfcd3df31a3c5f263d0802a10a8cee5", func := "duet/duetlaw04.MesgWrites", spec := "mesgWrites", unfollowed := true, recurses := true, apart := false }
def MesgWritesSaid : Prop := mesgWritesRow.holds Try.pinned (OpenSpec.ofChange mesgWritesSpec)

/-- ITS FALSE NEIGHBOUR: 'it returns false'. Refute it at one input. -/
def mesgWritesWrong : ChangeSpec := { name := "mesgWrites", fn := fun _ => fun
  | [d1, d2] => { results := [.lit (.bool false)], args := [d1, d2] }
  | _ => none }
def MesgWritesWrongFalsely : Prop := mesgWritesRow.holds Try.pinned (OpenSpec.ofChange mesgWritesWrong)

/-- 'duetlaw04.MesgReads': WHATEVER THE INPUT: true; the input reads as it did. -/
def mesgReadsSpec : ChangeSpec := { name := "mesgReads", fn := fun _ => fun
  | [d] => { results := [.lit (.bool true)], args := [d] }
  | _ => none }
def mesgReadsRow : OpenClaim := { program := "ythofobcbbddeeaa", sum := "9680772c1e591ccfdfb730eb69e9f0cf6bfcd3df31a3c5f263d0802a10a8cee5", func := "duet/duetlaw04.MesgReads", spec := "mesgReads", unfollowed := true, recurses := true, apart := false }
def MesgReadsSaid : Prop := mesgReadsRow.holds Try.pinned (OpenSpec.ofChange mesgReadsSpec)

/-- ITS FALSE NEIGHBOUR: 'it returns false'. Refute it at one input. -/
def mesgReadsWrong : ChangeSpec := { name := "mesgReads", fn := fun _ => fun
  | [d] => { results := [.lit (.bool false)], args := [d] }
  | _ => none }
def MesgReadsWrongFalsely : Prop := mesgReadsRow.holds Try.pinned (OpenSpec.ofChange mesgReadsWrong)

/-- 'duetlaw04.MesgBack': WHATEVER THE INPUT: true; the input reads as it did. -/
def mesgBackSpec : ChangeSpec := { name := "mesgBack", fn := fun _ => fun
  | [d1, d2] => { results := [.lit (.bool true)], args := [d1, d2] }
  | _ => none }
def mesgBackRow : OpenClaim := { program := "ythofobcbbddeeaa", sum := "9680772c1e591ccfdfb730eb69e9f0cf6bfcd3df31a3c5f263d0802a10a8cee5", func := "duet/duetlaw04.MesgBack", spec := "mesgBack", unfollowed := true, recurses := true, apart := false }
def MesgBackSaid : Prop := mesgBackRow.holds Try.pinned (OpenSpec.ofChange mesgBackSpec)

/-- ITS FALSE NEIGHBOUR: 'it returns false'. Refute it at one input. -/
def mesgBackWrong : ChangeSpec := { name := "mesgBack", fn := fun _ => fun
  | [d1, d2] => { results := [.lit (.bool false)], args := [d1, d2] }
  | _ => none }
def MesgBackWrongFalsely : Prop := mesgBackRow.holds Try.pinned (OpenSpec.ofChange mesgBackWrong)

/-- 'duetlaw04.MesgAgain': WHATEVER THE INPUT: true; the input reads as it did. -/
def mesgAgainSpec : ChangeSpec := { name := "mesgAgain", fn := fun _ => fun
  | [d] => { results := [.lit (.bool true)], args := [d] }
  | _ => none }
def mesgAgainRow : OpenClaim := { program := "ythofobcbbddeeaa", sum := "9680772c1e591ccfdfb730eb69e9f0cf6bfcd3df31a3c5f263d0802a10a8cee5", func := "duet/duetlaw04.MesgAgain", spec := "mesgAgain", unfollowed := true, recurses := true, apart := false }
def MesgAgainSaid : Prop := mesgAgainRow.holds Try.pinned (OpenSpec.ofChange mesgAgainSpec)

/-- ITS FALSE NEIGHBOUR: 'it returns false'. Refute it at one input. -/
def mesgAgainWrong : ChangeSpec := { name := "mesgAgain", fn := fun _ => fun
  | [d] => { results := [.lit (.bool false)], args := [d] }
  | _ => none }
def MesgAgainWrongFalsely : Prop := mesgAgainRow.holds Try.pinned (OpenSpec.ofChange mesgAgainWrong)

/-- 'duetlaw04.MesgShort': WHATEVER THE INPUT: true; the input reads as it did. -/
def mesgShortSpec : ChangeSpec := { name := "mesgShort", fn := fun _ => fun
  | [d] => { results := [.lit (.bool true)], args := [d] }
  | _ => none }
def mesgShortRow : OpenClaim := { program := "ythofobcbbddeeaa", sum := "9680772c1e591ccfdfb730eb69e9f0cf6bfcd3df31a3c5f263d0802a10a8cee5", func := "duet/duetlaw04.MesgShort", spec := "mesgShort", unfollowed := true, recurses := true, apart := false }
def MesgShortSaid : Prop := mesgShortRow.holds Try.pinned (OpenSpec.ofChange mesgShortSpec)

/-- ITS FALSE NEIGHBOUR: 'it returns false'. Refute it at one input. -/
def mesgShortWrong : ChangeSpec := { name := "mesgShort", fn := fun _ => fun
  | [d] => { results := [.lit (.bool false)], args := [d] }
  | _ => none }
def MesgShortWrongFalsely : Prop := mesgShortRow.holds Try.pinned (OpenSpec.ofChange mesgShortWrong)

/-- 'duetlaw04.MesgApart': WHATEVER THE INPUT: true; the input reads as it did. -/
def mesgApartSpec : ChangeSpec := { name := "mesgApart", fn := fun _ => fun
  | [d1, d2] => { results := [.lit (.bool true)], args := [d1, d2] }
  | _ => none }
def mesgApartRow : OpenClaim := { program := "ythofobcbbddeeaa", sum := "9680772c1e591ccfdfb730eb69e9f0cf6bfcd3df31a3c5f263d0802a10a8cee5", func := "duet/duetlaw04.MesgApart", spec := "mesgApart", unfollowed := true, recurses := true, apart := false }
def MesgApartSaid : Prop := mesgApartRow.holds Try.pinned (OpenSpec.ofChange mesgApartSpec)

/-- ITS FALSE NEIGHBOUR: 'it returns false'. Refute it at one input. -/
def mesgApartWrong : ChangeSpec := { name := "mesgApart", fn := fun _ => fun
  | [d1, d2] => { results := [.lit (.bool false)], args := [d1, d2] }
  | _ => none }
def MesgApartWrongFalsely : Prop := mesgApartRow.holds Try.pinned (OpenSpec.ofChange mesgApartWrong)

/-- 'duetlaw19.SearchBrowses': WHATEVER THE INPUT: true; the input reads as it did. -/
def searchBrowsesSpec : ChangeSpec := { name := "searchBrowses", fn := fun _ => fun
  | [d1, d2, d3] => { results := [.lit (.bool true)], args := [d1, d2, d3] }
  | _ => none }
def searchBrowsesRow : OpenClaim := { program := "ythofobcbbddeeaa", sum := "9680772c1e591ccfdfb730eb69e9f0cf6bfcd3df31a3c5f263d0802a10a8cee5", func := "duet/duetlaw19.SearchBrowses", spec := "searchBrowses", inPlace := ["internal/bytealg.IndexByteString", "internal/bytealg.IndexString"], unfollowed := true, recurses := true, named := ["internal/bytealg.MaxLen"], apart := false }
def SearchBrowsesSaid : Prop := searchBrowsesRow.holds Try.pinned (OpenSpec.ofChange searchBrowsesSpec)

/-- ITS FALSE NEIGHBOUR: 'it returns false'. Refute it at one input. -/
def searchBrowsesWrong : ChangeSpec := { name := "searchBrowses", fn := fun _ => fun
  | [d1, d2, d3] => { results := [.lit (.bool false)], args := [d1, d2, d3] }
  | _ => none }
def SearchBrowsesWrongFalsely : Prop := searchBrowsesRow.holds Try.pinned (OpenSpec.ofChange searchBrowsesWrong)

/-- 'duetlaw19.SearchLast': WHATEVER THE INPUT: true; the input reads as it did. -/
def searchLastSpec : ChangeSpec := { name := "searchLast", fn := fun _ => fun
  | [d1, d2] => { results := [.lit (.bool true)], args := [d1, d2] }
  | _ => none }
def searchLastRow : OpenClaim := { program := "ythofobcbbddeeaa", sum := "9680772c1e591ccfdfb730eb69e9f0cf6bfcd3df31a3c5f263d0802a10a8cee5", func := "duet/duetlaw19.SearchLast", spec := "searchLast", inPlace := ["internal/bytealg.IndexByteString", "internal/bytealg.IndexString"], unfollowed := true, recurses := true, named := ["internal/bytealg.MaxLen"], apart := false }
def SearchLastSaid : Prop := searchLastRow.holds Try.pinned (OpenSpec.ofChange searchLastSpec)

/-- ITS FALSE NEIGHBOUR: 'it returns false'. Refute it at one input. -/
def searchLastWrong : ChangeSpec := { name := "searchLast", fn := fun _ => fun
  | [d1, d2] => { results := [.lit (.bool false)], args := [d1, d2] }
  | _ => none }
def SearchLastWrongFalsely : Prop := searchLastRow.holds Try.pinned (OpenSpec.ofChange searchLastWrong)

/-- 'duetlaw19.SearchScripts': WHATEVER THE INPUT: true; the input reads as it did. -/
def searchScriptsSpec : ChangeSpec := { name := "searchScripts", fn := fun _ => fun
  | [d1, d2] => { results := [.lit (.bool true)], args := [d1, d2] }
  | _ => none }
def searchScriptsRow : OpenClaim := { program := "ythofobcbbddeeaa", sum := "9680772c1e591ccfdfb730eb69e9f0cf6bfcd3df31a3c5f263d0802a10a8cee5", func := "duet/duetlaw19.SearchScripts", spec := "searchScripts", inPlace := ["internal/bytealg.IndexByteString", "internal/bytealg.IndexString"], unfollowed := true, recurses := true, named := ["internal/bytealg.MaxLen"], apart := false }
def SearchScriptsSaid : Prop := searchScriptsRow.holds Try.pinned (OpenSpec.ofChange searchScriptsSpec)

/-- ITS FALSE NEIGHBOUR: 'it returns false'. Refute it at one input. -/
def searchScriptsWrong : ChangeSpec := { name := "searchScripts", fn := fun _ => fun
  | [d1, d2] => { results := [.lit (.bool false)], args := [d1, d2] }
  | _ => none }
def SearchScriptsWrongFalsely : Prop := searchScriptsRow.holds Try.pinned (OpenSpec.ofChange searchScriptsWrong)

/-- 'duetlaw19.SearchNil': WHATEVER THE INPUT: true; the input reads as it did. -/
def searchNilSpec : ChangeSpec := { name := "searchNil", fn := fun _ => fun
  | [d] => { results := [.lit (.bool true)], args := [d] }
  | _ => none }
def searchNilRow : OpenClaim := { program := "ythofobcbbddeeaa", sum := "9680772c1e591ccfdfb730eb69e9f0cf6bfcd3df31a3c5f263d0802a10a8cee5", func := "duet/duetlaw19.SearchNil", spec := "searchNil", inPlace := ["internal/bytealg.IndexByteString", "internal/bytealg.IndexString"], unfollowed := true, recurses := true, named := ["internal/bytealg.MaxLen"], apart := false }
def SearchNilSaid : Prop := searchNilRow.holds Try.pinned (OpenSpec.ofChange searchNilSpec)

/-- ITS FALSE NEIGHBOUR: 'it returns false'. Refute it at one input. -/
def searchNilWrong : ChangeSpec := { name := "searchNil", fn := fun _ => fun
  | [d] => { results := [.lit (.bool false)], args := [d] }
  | _ => none }
def SearchNilWrongFalsely : Prop := searchNilRow.holds Try.pinned (OpenSpec.ofChange searchNilWrong)

/-- 'duetlaw19.SearchFits': WHATEVER THE INPUT: true; the input reads as it did. -/
def searchFitsSpec : ChangeSpec := { name := "searchFits", fn := fun _ => fun
  | [d1, d2] => { results := [.lit (.bool true)], args := [d1, d2] }
  | _ => none }
def searchFitsRow : OpenClaim := { program := "ythofobcbbddeeaa", sum := "9680772c1e591ccfdfb730eb69e9f0cf6bfcd3df31a3c5f263d0802a10a8cee5", func := "duet/duetlaw19.SearchFits", spec := "searchFits", inPlace := ["internal/bytealg.IndexByteString", "internal/bytealg.IndexString"], unfollowed := true, recurses := true, named := ["internal/bytealg.MaxLen"], apart := false }
def SearchFitsSaid : Prop := searchFitsRow.holds Try.pinned (OpenSpec.ofChange searchFitsSpec)

/-- ITS FALSE NEIGHBOUR: 'it returns false'. Refute it at one input. -/
def searchFitsWrong : ChangeSpec := { name := "searchFits", fn := fun _ => fun
  | [d1, d2] => { results := [.lit (.bool false)], args := [d1, d2] }
  | _ => none }
def SearchFitsWrongFalsely : Prop := searchFitsRow.holds Try.pinned (OpenSpec.ofChange searchFitsWrong)

/- THE SECOND FORM. 'bulk': how many values and letters a reading holds, each counted each time it is reached (what is shared counts as often as it is met; a slice's spare places count too). A statement '..UptoSaid' is the law's where the arguments, and the package variables that the reading takes, are together of bulk at most 1048576: NARROWER than '..Said'. Prove '..Said' where nothing that the law and all that it calls make is longer than what came in: it says more and counts as full. Else prove '..UptoSaid'. A law counts once. -/
mutual
def uptoBulk {H : Type} : DataW H → Nat
  | .lit (.string bytes) => bytes.length + 1
  | .lit _ => 1
  | .nil => 1
  | .ptr d => uptoBulk d + 1
  | .slice elems spare => uptoBulkAll elems + uptoBulkAll spare + 1
  | .agg parts => uptoBulkAll parts + 1
  | .iface _ d => uptoBulk d + 1
  | .map entries => uptoBulkEntries entries + 1
  | .held _ => 1
def uptoBulkAll {H : Type} : List (DataW H) → Nat
  | [] => 0
  | d :: r => uptoBulk d + uptoBulkAll r
def uptoBulkEntries {H : Type} : List (Lit × DataW H) → Nat
  | [] => 0
  | x :: r => uptoBulkEntry x + uptoBulkEntries r
def uptoBulkEntry {H : Type} : Lit × DataW H → Nat
  | (.string bytes, d) => bytes.length + uptoBulk d + 1
  | (_, d) => uptoBulk d + 1
 end
def uptoSmall : (H : Type) → List (DataW H) → Bool := fun _ ds => decide (uptoBulkAll ds ≤ 1048576)
def OpenSpec.upto (s : _root_.Go.ChangeSpec) : _root_.Go.OpenSpec := { _root_.Go.OpenSpec.ofChange s with cond := some uptoSmall }

/-- 'duetlaw04.MesgWrites', WHERE WHAT IT READS IS OF BULK AT MOST 1048576: true; the input reads as it did. -/
def mesgWritesUptoRow : OpenClaim := { program := "ythofobcbbddeeaa", sum := "9680772c1e591ccfdfb730eb69e9f0cf6bfcd3df31a3c5f263d0802a10a8cee5", func := "duet/duetlaw04.MesgWrites", spec := "mesgWrites", unfollowed := true, recurses := true, apart := false, narrowed := true }
def MesgWritesUptoSaid : Prop := mesgWritesUptoRow.holds Try.pinned (OpenSpec.upto mesgWritesSpec)

/-- 'duetlaw04.MesgReads', WHERE WHAT IT READS IS OF BULK AT MOST 1048576: true; the input reads as it did. -/
def mesgReadsUptoRow : OpenClaim := { program := "ythofobcbbddeeaa", sum := "9680772c1e591ccfdfb730eb69e9f0cf6bfcd3df31a3c5f263d0802a10a8cee5", func := "duet/duetlaw04.MesgReads", spec := "mesgReads", unfollowed := true, recurses := true, apart := false, narrowed := true }
def MesgReadsUptoSaid : Prop := mesgReadsUptoRow.holds Try.pinned (OpenSpec.upto mesgReadsSpec)

/-- 'duetlaw04.MesgBack', WHERE WHAT IT READS IS OF BULK AT MOST 1048576: true; the input reads as it did. -/
def mesgBackUptoRow : OpenClaim := { program := "ythofobcbbddeeaa", sum := "9680772c1e591ccfdfb730eb69e9f0cf6bfcd3df31a3c5f263d0802a10a8cee5", func := "duet/duetlaw04.MesgBack", spec := "mesgBack", unfollowed := true, recurses := true, apart := false, narrowed := true }
def MesgBackUptoSaid : Prop := mesgBackUptoRow.holds Try.pinned (OpenSpec.upto mesgBackSpec)

/-- 'duetlaw04.MesgAgain', WHERE WHAT IT READS IS OF BULK AT MOST 1048576: true; the input reads as it did. -/
def mesgAgainUptoRow : OpenClaim := { program := "ythofobcbbddeeaa", sum := "9680772c1e591ccfdfb730eb69e9f0cf6bfcd3df31a3c5f263d0802a10a8cee5", func := "duet/duetlaw04.MesgAgain", spec := "mesgAgain", unfollowed := true, recurses := true, apart := false, narrowed := true }
def MesgAgainUptoSaid : Prop := mesgAgainUptoRow.holds Try.pinned (OpenSpec.upto mesgAgainSpec)

/-- 'duetlaw04.MesgShort', WHERE WHAT IT READS IS OF BULK AT MOST 1048576: true; the input reads as it did. -/
def mesgShortUptoRow : OpenClaim := { program := "ythofobcbbddeeaa", sum := "9680772c1e591ccfdfb730eb69e9f0cf6bfcd3df31a3c5f263d0802a10a8cee5", func := "duet/duetlaw04.MesgShort", spec := "mesgShort", unfollowed := true, recurses := true, apart := false, narrowed := true }
def MesgShortUptoSaid : Prop := mesgShortUptoRow.holds Try.pinned (OpenSpec.upto mesgShortSpec)

/-- 'duetlaw04.MesgApart', WHERE WHAT IT READS IS OF BULK AT MOST 1048576: true; the input reads as it did. -/
def mesgApartUptoRow : OpenClaim := { program := "ythofobcbbddeeaa", sum := "9680772c1e591ccfdfb730eb69e9f0cf6bfcd3df31a3c5f263d0802a10a8cee5", func := "duet/duetlaw04.MesgApart", spec := "mesgApart", unfollowed := true, recurses := true, apart := false, narrowed := true }
def MesgApartUptoSaid : Prop := mesgApartUptoRow.holds Try.pinned (OpenSpec.upto mesgApartSpec)

/-- 'duetlaw19.SearchBrowses', WHERE WHAT IT READS IS OF BULK AT MOST 1048576: true; the input reads as it did. -/
def searchBrowsesUptoRow : OpenClaim := { program := "ythofobcbbddeeaa", sum := "9680772c1e591ccfdfb730eb69e9f0cf6bfcd3df31a3c5f263d0802a10a8cee5", func := "duet/duetlaw19.SearchBrowses", spec := "searchBrowses", inPlace := ["internal/bytealg.IndexByteString", "internal/bytealg.IndexString"], unfollowed := true, recurses := true, named := ["internal/bytealg.MaxLen"], apart := false, narrowed := true }
def SearchBrowsesUptoSaid : Prop := searchBrowsesUptoRow.holds Try.pinned (OpenSpec.upto searchBrowsesSpec)

/-- 'duetlaw19.SearchLast', WHERE WHAT IT READS IS OF BULK AT MOST 1048576: true; the input reads as it did. -/
def searchLastUptoRow : OpenClaim := { program := "ythofobcbbddeeaa", sum := "9680772c1e591ccfdfb730eb69e9f0cf6bfcd3df31a3c5f263d0802a10a8cee5", func := "duet/duetlaw19.SearchLast", spec := "searchLast", inPlace := ["internal/bytealg.IndexByteString", "internal/bytealg.IndexString"], unfollowed := true, recurses := true, named := ["internal/bytealg.MaxLen"], apart := false, narrowed := true }
def SearchLastUptoSaid : Prop := searchLastUptoRow.holds Try.pinned (OpenSpec.upto searchLastSpec)

/-- 'duetlaw19.SearchScripts', WHERE WHAT IT READS IS OF BULK AT MOST 1048576: true; the input reads as it did. -/
def searchScriptsUptoRow : OpenClaim := { program := "ythofobcbbddeeaa", sum := "9680772c1e591ccfdfb730eb69e9f0cf6bfcd3df31a3c5f263d0802a10a8cee5", func := "duet/duetlaw19.SearchScripts", spec := "searchScripts", inPlace := ["internal/bytealg.IndexByteString", "internal/bytealg.IndexString"], unfollowed := true, recurses := true, named := ["internal/bytealg.MaxLen"], apart := false, narrowed := true }
def SearchScriptsUptoSaid : Prop := searchScriptsUptoRow.holds Try.pinned (OpenSpec.upto searchScriptsSpec)

/-- 'duetlaw19.SearchNil', WHERE WHAT IT READS IS OF BULK AT MOST 1048576: true; the input reads as it did. -/
def searchNilUptoRow : OpenClaim := { program := "ythofobcbbddeeaa", sum := "9680772c1e591ccfdfb730eb69e9f0cf6bfcd3df31a3c5f263d0802a10a8cee5", func := "duet/duetlaw19.SearchNil", spec := "searchNil", inPlace := ["internal/bytealg.IndexByteString", "internal/bytealg.IndexString"], unfollowed := true, recurses := true, named := ["internal/bytealg.MaxLen"], apart := false, narrowed := true }
def SearchNilUptoSaid : Prop := searchNilUptoRow.holds Try.pinned (OpenSpec.upto searchNilSpec)

/-- 'duetlaw19.SearchFits', WHERE WHAT IT READS IS OF BULK AT MOST 1048576: true; the input reads as it did. -/
def searchFitsUptoRow : OpenClaim := { program := "ythofobcbbddeeaa", sum := "9680772c1e591ccfdfb730eb69e9f0cf6bfcd3df31a3c5f263d0802a10a8cee5", func := "duet/duetlaw19.SearchFits", spec := "searchFits", inPlace := ["internal/bytealg.IndexByteString", "internal/bytealg.IndexString"], unfollowed := true, recurses := true, named := ["internal/bytealg.MaxLen"], apart := false, narrowed := true }
def SearchFitsUptoSaid : Prop := searchFitsUptoRow.holds Try.pinned (OpenSpec.upto searchFitsSpec)

end Rows
end Go.Proofs.Ythofobcbbddeeaa
