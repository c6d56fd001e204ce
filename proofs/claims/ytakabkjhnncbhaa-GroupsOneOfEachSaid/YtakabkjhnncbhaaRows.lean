/-
  No cell of these rows narrows 'for every input' (looked for: loops, veiled, ifaces, maps, wideKeys, modest, calm, conditions, laid).
  DERIVED. THE GIVEN ROWS OF THIS SEAT. 7 by the template 'for every input the law returns true; each argument reads behind the call as it read before'; 0 by the template 'total and deterministic' (their statements: YtakabkjhnncbhaaTotals.lean).
  GIVEN WITH THE SEED: the statements are not yours to turn. If you find one false, say at which input.
  Laid BY PROGRAM, IN A SANDBOX (cutbox-rows.mjs): the forced cells as the released guide's own fill.sh prints them over the translation b95710e8a46b323b… (all of the seat's roots in one cut). By AI agents, Wed Nov 11 2026. No macro, syntax, notation, axiom, sorry.
-/
import Derived.Test.YtakabkjhnncbhaaChecked
import GoSem.Claim
import GoSem.ClaimJoined
import GoSem.ClaimMapViews
import Derived.JoinedTies
import Derived.KernelRfl
namespace Go.Proofs.Ytakabkjhnncbhaa
/- THE CELL 'sum', in the pinned program and in every row, IS THE sha256 OF THE DUMP (.gsa) THAT YtakabkjhnncbhaaProg.lean LOADS. Nothing in Lean hashes anything: it is a label: what it is worth is what the hold of that sum in a sandbox is worth. -/
noncomputable def Try.pinned : Pinned := { name := "ytakabkjhnncbhaa", sum := "b95710e8a46b323b13744decc5a01198d9ac782752530ed401514b36e7f9c19a", checked := Try.checked }
namespace Rows
def none {H : Type} : Left H := { results := [], args := [] }

/-- 'linkhouselaw3.GroupsMatchSpec': WHATEVER THE INPUT: true; the input reads as it did. -/
def groupsMatchSpecSpec : ChangeSpec := { name := "groupsMatchSpec", fn := fun _ => fun
  | [d1, d2] => { results := [.lit (.bool true)], args := [d1, d2] }
  | _ => none }
def groupsMatchSpecRow : OpenClaim := { program := "ytakabkjhnncbhaa", sum := "b95710e8a46b323b13744decc5a01198d9ac782752530ed401514b36e7f9c19a", func := "linkhouse/linkhouselaw3.GroupsMatchSpec", spec := "groupsMatchSpec", unfollowed := true, recurses := true, apart := false }
def GroupsMatchSpecSaid : Prop := groupsMatchSpecRow.holds Try.pinned (OpenSpec.ofChange groupsMatchSpecSpec)

/-- ITS FALSE NEIGHBOUR: 'it returns false'. Refute it at one input. -/
def groupsMatchSpecWrong : ChangeSpec := { name := "groupsMatchSpec", fn := fun _ => fun
  | [d1, d2] => { results := [.lit (.bool false)], args := [d1, d2] }
  | _ => none }
def GroupsMatchSpecWrongFalsely : Prop := groupsMatchSpecRow.holds Try.pinned (OpenSpec.ofChange groupsMatchSpecWrong)

/-- 'linkhouselaw3.GroupsOneOfEach': WHATEVER THE INPUT: true; the input reads as it did. -/
def groupsOneOfEachSpec : ChangeSpec := { name := "groupsOneOfEach", fn := fun _ => fun
  | [d1, d2] => { results := [.lit (.bool true)], args := [d1, d2] }
  | _ => none }
def groupsOneOfEachRow : OpenClaim := { program := "ytakabkjhnncbhaa", sum := "b95710e8a46b323b13744decc5a01198d9ac782752530ed401514b36e7f9c19a", func := "linkhouse/linkhouselaw3.GroupsOneOfEach", spec := "groupsOneOfEach", unfollowed := true, recurses := true, apart := false }
def GroupsOneOfEachSaid : Prop := groupsOneOfEachRow.holds Try.pinned (OpenSpec.ofChange groupsOneOfEachSpec)

/-- ITS FALSE NEIGHBOUR: 'it returns false'. Refute it at one input. -/
def groupsOneOfEachWrong : ChangeSpec := { name := "groupsOneOfEach", fn := fun _ => fun
  | [d1, d2] => { results := [.lit (.bool false)], args := [d1, d2] }
  | _ => none }
def GroupsOneOfEachWrongFalsely : Prop := groupsOneOfEachRow.holds Try.pinned (OpenSpec.ofChange groupsOneOfEachWrong)

/-- 'linkhouselaw3.GroupsAreStable': WHATEVER THE INPUT: true; the input reads as it did. -/
def groupsAreStableSpec : ChangeSpec := { name := "groupsAreStable", fn := fun _ => fun
  | [d1, d2] => { results := [.lit (.bool true)], args := [d1, d2] }
  | _ => none }
def groupsAreStableRow : OpenClaim := { program := "ytakabkjhnncbhaa", sum := "b95710e8a46b323b13744decc5a01198d9ac782752530ed401514b36e7f9c19a", func := "linkhouse/linkhouselaw3.GroupsAreStable", spec := "groupsAreStable", unfollowed := true, recurses := true, apart := false }
def GroupsAreStableSaid : Prop := groupsAreStableRow.holds Try.pinned (OpenSpec.ofChange groupsAreStableSpec)

/-- ITS FALSE NEIGHBOUR: 'it returns false'. Refute it at one input. -/
def groupsAreStableWrong : ChangeSpec := { name := "groupsAreStable", fn := fun _ => fun
  | [d1, d2] => { results := [.lit (.bool false)], args := [d1, d2] }
  | _ => none }
def GroupsAreStableWrongFalsely : Prop := groupsAreStableRow.holds Try.pinned (OpenSpec.ofChange groupsAreStableWrong)

/-- 'linkhouselaw3.ArchiveMatchesSpec': WHATEVER THE INPUT: true; the input reads as it did. -/
def archiveMatchesSpecSpec : ChangeSpec := { name := "archiveMatchesSpec", fn := fun _ => fun
  | [d1, d2] => { results := [.lit (.bool true)], args := [d1, d2] }
  | _ => none }
def archiveMatchesSpecRow : OpenClaim := { program := "ytakabkjhnncbhaa", sum := "b95710e8a46b323b13744decc5a01198d9ac782752530ed401514b36e7f9c19a", func := "linkhouse/linkhouselaw3.ArchiveMatchesSpec", spec := "archiveMatchesSpec", unfollowed := true, recurses := true, apart := false }
def ArchiveMatchesSpecSaid : Prop := archiveMatchesSpecRow.holds Try.pinned (OpenSpec.ofChange archiveMatchesSpecSpec)

/-- ITS FALSE NEIGHBOUR: 'it returns false'. Refute it at one input. -/
def archiveMatchesSpecWrong : ChangeSpec := { name := "archiveMatchesSpec", fn := fun _ => fun
  | [d1, d2] => { results := [.lit (.bool false)], args := [d1, d2] }
  | _ => none }
def ArchiveMatchesSpecWrongFalsely : Prop := archiveMatchesSpecRow.holds Try.pinned (OpenSpec.ofChange archiveMatchesSpecWrong)

/-- 'linkhouselaw3.ArchiveDefinersMatchSpec': WHATEVER THE INPUT: true; the input reads as it did. -/
def archiveDefinersMatchSpecSpec : ChangeSpec := { name := "archiveDefinersMatchSpec", fn := fun _ => fun
  | [d1, d2, d3] => { results := [.lit (.bool true)], args := [d1, d2, d3] }
  | _ => none }
def archiveDefinersMatchSpecRow : OpenClaim := { program := "ytakabkjhnncbhaa", sum := "b95710e8a46b323b13744decc5a01198d9ac782752530ed401514b36e7f9c19a", func := "linkhouse/linkhouselaw3.ArchiveDefinersMatchSpec", spec := "archiveDefinersMatchSpec", unfollowed := true, recurses := true, apart := false }
def ArchiveDefinersMatchSpecSaid : Prop := archiveDefinersMatchSpecRow.holds Try.pinned (OpenSpec.ofChange archiveDefinersMatchSpecSpec)

/-- ITS FALSE NEIGHBOUR: 'it returns false'. Refute it at one input. -/
def archiveDefinersMatchSpecWrong : ChangeSpec := { name := "archiveDefinersMatchSpec", fn := fun _ => fun
  | [d1, d2, d3] => { results := [.lit (.bool false)], args := [d1, d2, d3] }
  | _ => none }
def ArchiveDefinersMatchSpecWrongFalsely : Prop := archiveDefinersMatchSpecRow.holds Try.pinned (OpenSpec.ofChange archiveDefinersMatchSpecWrong)

/-- 'linkhouselaw3.ArchiveLeavesNothingOpen': WHATEVER THE INPUT: true; the input reads as it did. -/
def archiveLeavesNothingOpenSpec : ChangeSpec := { name := "archiveLeavesNothingOpen", fn := fun _ => fun
  | [d1, d2] => { results := [.lit (.bool true)], args := [d1, d2] }
  | _ => none }
def archiveLeavesNothingOpenRow : OpenClaim := { program := "ytakabkjhnncbhaa", sum := "b95710e8a46b323b13744decc5a01198d9ac782752530ed401514b36e7f9c19a", func := "linkhouse/linkhouselaw3.ArchiveLeavesNothingOpen", spec := "archiveLeavesNothingOpen", unfollowed := true, recurses := true, apart := false }
def ArchiveLeavesNothingOpenSaid : Prop := archiveLeavesNothingOpenRow.holds Try.pinned (OpenSpec.ofChange archiveLeavesNothingOpenSpec)

/-- ITS FALSE NEIGHBOUR: 'it returns false'. Refute it at one input. -/
def archiveLeavesNothingOpenWrong : ChangeSpec := { name := "archiveLeavesNothingOpen", fn := fun _ => fun
  | [d1, d2] => { results := [.lit (.bool false)], args := [d1, d2] }
  | _ => none }
def ArchiveLeavesNothingOpenWrongFalsely : Prop := archiveLeavesNothingOpenRow.holds Try.pinned (OpenSpec.ofChange archiveLeavesNothingOpenWrong)

/-- 'linkhouselaw3.ArchiveAgainPullsNothing': WHATEVER THE INPUT: true; the input reads as it did. -/
def archiveAgainPullsNothingSpec : ChangeSpec := { name := "archiveAgainPullsNothing", fn := fun _ => fun
  | [d1, d2] => { results := [.lit (.bool true)], args := [d1, d2] }
  | _ => none }
def archiveAgainPullsNothingRow : OpenClaim := { program := "ytakabkjhnncbhaa", sum := "b95710e8a46b323b13744decc5a01198d9ac782752530ed401514b36e7f9c19a", func := "linkhouse/linkhouselaw3.ArchiveAgainPullsNothing", spec := "archiveAgainPullsNothing", unfollowed := true, recurses := true, apart := false }
def ArchiveAgainPullsNothingSaid : Prop := archiveAgainPullsNothingRow.holds Try.pinned (OpenSpec.ofChange archiveAgainPullsNothingSpec)

/-- ITS FALSE NEIGHBOUR: 'it returns false'. Refute it at one input. -/
def archiveAgainPullsNothingWrong : ChangeSpec := { name := "archiveAgainPullsNothing", fn := fun _ => fun
  | [d1, d2] => { results := [.lit (.bool false)], args := [d1, d2] }
  | _ => none }
def ArchiveAgainPullsNothingWrongFalsely : Prop := archiveAgainPullsNothingRow.holds Try.pinned (OpenSpec.ofChange archiveAgainPullsNothingWrong)

/- THE SECOND FORM. 'bulk': how many values and letters a reading holds, each counted each time it is reached (what is shared counts as often as it is met; a slice's spare places count too). A statement '..UptoSaid' is the law's where the arguments, and the package variables that the reading takes, are together of bulk at most 1048576: NARROWER than '..Said'. Prove '..Said' where nothing that the law and all that it calls make is longer than what came in: it says more and counts as full. Else prove '..UptoSaid'. A law counts once. -/
mutual
def uptoBulk {H : Type} : DataW H → Nat
  | .lit (.string bytes) => bytes.length + 1
  | .lit _ => 1
  | .nil => 1
  | .ptr d => uptoBulk d + 1
  | .slice elems spare => uptoBulkAll elems + uptoBulkAll spare + 1
  | .agg parts => uptoBulkAll parts + 1
  | .iface _ d => uptoBulk d + 1
  | .map entries => uptoBulkEntries entries + 1
  | .held _ => 1
def uptoBulkAll {H : Type} : List (DataW H) → Nat
  | [] => 0
  | d :: r => uptoBulk d + uptoBulkAll r
def uptoBulkEntries {H : Type} : List (Lit × DataW H) → Nat
  | [] => 0
  | x :: r => uptoBulkEntry x + uptoBulkEntries r
def uptoBulkEntry {H : Type} : Lit × DataW H → Nat
  | (.string bytes, d) => bytes.length + uptoBulk d + 1
  | (_, d) => uptoBulk d + 1
 end
def uptoSmall : (H : Type) → List (DataW H) → Bool := fun _ ds => decide (uptoBulkAll ds ≤ 1048576)
def OpenSpec.upto (s : _root_.Go.ChangeSpec) : _root_.Go.OpenSpec := { _root_.Go.OpenSpec.ofChange s with cond := some uptoSmall }

/-- 'linkhouselaw3.GroupsMatchSpec', WHERE WHAT IT READS IS OF BULK AT MOST 1048576: true; the input reads as it did. -/
def groupsMatchSpecUptoRow : OpenClaim := { program := "ytakabkjhnncbhaa", sum := "b95710e8a46b323b13744decc5a01198d9ac782752530ed401514b36e7f9c19a", func := "linkhouse/linkhouselaw3.GroupsMatchSpec", spec := "groupsMatchSpec", unfollowed := true, recurses := true, apart := false, narrowed := true }
def GroupsMatchSpecUptoSaid : Prop := groupsMatchSpecUptoRow.holds Try.pinned (OpenSpec.upto groupsMatchSpecSpec)

/-- 'linkhouselaw3.GroupsOneOfEach', WHERE WHAT IT READS IS OF BULK AT MOST 1048576: true; the input reads as it did. -/
def groupsOneOfEachUptoRow : OpenClaim := { program := "ytakabkjhnncbhaa", sum := "b95710e8a46b323b13744decc5a01198d9ac782752530ed401514b36e7f9c19a", func := "linkhouse/linkhouselaw3.GroupsOneOfEach", spec := "groupsOneOfEach", unfollowed := true, recurses := true, apart := false, narrowed := true }
def GroupsOneOfEachUptoSaid : Prop := groupsOneOfEachUptoRow.holds Try.pinned (OpenSpec.upto groupsOneOfEachSpec)

/-- 'linkhouselaw3.GroupsAreStable', WHERE WHAT IT READS IS OF BULK AT MOST 1048576: true; the input reads as it did. -/
def groupsAreStableUptoRow : OpenClaim := { program := "ytakabkjhnncbhaa", sum := "b95710e8a46b323b13744decc5a01198d9ac782752530ed401514b36e7f9c19a", func := "linkhouse/linkhouselaw3.GroupsAreStable", spec := "groupsAreStable", unfollowed := true, recurses := true, apart := false, narrowed := true }
def GroupsAreStableUptoSaid : Prop := groupsAreStableUptoRow.holds Try.pinned (OpenSpec.upto groupsAreStableSpec)

/-- 'linkhouselaw3.ArchiveMatchesSpec', WHERE WHAT IT READS IS OF BULK AT MOST 1048576: true; the input reads as it did. -/
def archiveMatchesSpecUptoRow : OpenClaim := { program := "ytakabkjhnncbhaa", sum := "b95710e8a46b323b13744decc5a01198d9ac782752530ed401514b36e7f9c19a", func := "linkhouse/linkhouselaw3.ArchiveMatchesSpec", spec := "archiveMatchesSpec", unfollowed := true, recurses := true, apart := false, narrowed := true }
def ArchiveMatchesSpecUptoSaid : Prop := archiveMatchesSpecUptoRow.holds Try.pinned (OpenSpec.upto archiveMatchesSpecSpec)

/-- 'linkhouselaw3.ArchiveDefinersMatchSpec', WHERE WHAT IT READS IS OF BULK AT MOST 1048576: true; the input reads as it did. -/
def archiveDefinersMatchSpecUptoRow : OpenClaim := { program := "ytakabkjhnncbhaa", sum := "b95710e8a46b323b13744decc5a01198d9ac782752530ed401514b36e7f9c19a", func := "linkhouse/linkhouselaw3.ArchiveDefinersMatchSpec", spec := "archiveDefinersMatchSpec", unfollowed := true, recurses := true, apart := false, narrowed := true }
def ArchiveDefinersMatchSpecUptoSaid : Prop := archiveDefinersMatchSpecUptoRow.holds Try.pinned (OpenSpec.upto archiveDefinersMatchSpecSpec)

/-- 'linkhouselaw3.ArchiveLeavesNothingOpen', WHERE WHAT IT READS IS OF BULK AT MOST 1048576: true; the input reads as it did. -/
def archiveLeavesNothingOpenUptoRow : OpenClaim := { program := "ytakabkjhnncbhaa", sum := "b95710e8a46b323b13744decc5a01198d9ac782752530ed401514b36e7f9c19a", func := "linkhouse/linkhouselaw3.ArchiveLeavesNothingOpen", spec := "archiveLeavesNothingOpen", unfollowed := true, recurses := true, apart := false, narrowed := true }
def ArchiveLeavesNothingOpenUptoSaid : Prop := archiveLeavesNothingOpenUptoRow.holds Try.pinned (OpenSpec.upto archiveLeavesNothingOpenSpec)

/-- 'linkhouselaw3.ArchiveAgainPullsNothing', WHERE WHAT IT READS IS OF BULK AT MOST 1048576: true; the input reads as it did. -/
def archiveAgainPullsNothingUptoRow : OpenClaim := { program := "ytakabkjhnncbhaa", sum := "b95710e8a46b323b13744decc5a01198d9ac782752530ed401514b36e7f9c19a", func := "linkhouse/linkhouselaw3.ArchiveAgainPullsNothing", spec := "archiveAgainPullsNothing", unfollowed := true, recurses := true, apart := false, narrowed := true }
def ArchiveAgainPullsNothingUptoSaid : Prop := archiveAgainPullsNothingUptoRow.holds Try.pinned (OpenSpec.upto archiveAgainPullsNothingSpec)

end Rows
end Go.Proofs.Ytakabkjhnncbhaa
