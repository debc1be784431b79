/-
  No cell of these rows narrows 'for every input' (looked for: loops, veiled, ifaces, maps, wideKeys, modest, calm, conditions, laid).
  DERIVED. THE GIVEN ROWS OF THIS SEAT. 10 by the template 'for every input the law returns true; each argument reads behind the call as it read before'; 0 by the template 'total and deterministic' (their statements: YtdeemlgkckpedaaTotals.lean).
  GIVEN WITH THE SEED: the statements are not yours to turn. If you find one false, say at which input.
  Laid BY PROGRAM, IN A SANDBOX (cutbox-rows.mjs): the forced cells as the released guide's own fill.sh prints them over the translation e96b72160f389dfb… (all of the seat's roots in one cut). By AI agents, Wed Nov 11 2026. No macro, syntax, notation, axiom, sorry.
-/
import Derived.Test.YtdeemlgkckpedaaChecked
import GoSem.Claim
import GoSem.ClaimJoined
import GoSem.ClaimMapViews
import Derived.JoinedTies
import Derived.KernelRfl
namespace Go.Proofs.Ytdeemlgkckpedaa
/- THE CELL 'sum', in the pinned program and in every row, IS THE sha256 OF THE DUMP (.gsa) THAT YtdeemlgkckpedaaProg.lean LOADS. Nothing in Lean hashes anything: it is a label: what it is worth is what the hold of that sum in a sandbox is worth. -/
noncomputable def Try.pinned : Pinned := { name := "ytdeemlgkckpedaa", sum := "e96b72160f389dfb8736604554b5ec085d69d03d7c868b1aeaee60341394a1f3", checked := Try.checked }
namespace Rows
def none {H : Type} : Left H := { results := [], args := [] }

/-- 'tollerlaw12.PruneIs': WHATEVER THE INPUT: true; the input reads as it did. -/
def pruneIsSpec : ChangeSpec := { name := "pruneIs", fn := fun _ => fun
  | [d1, d2, d3] => { results := [.lit (.bool true)], args := [d1, d2, d3] }
  | _ => none }
def pruneIsRow : OpenClaim := { program := "ytdeemlgkckpedaa", sum := "e96b72160f389dfb8736604554b5ec085d69d03d7c868b1aeaee60341394a1f3", func := "toller/tollerlaw12.PruneIs", spec := "pruneIs", unfollowed := true, recurses := true, plainKeys := false, apart := false }
def PruneIsSaid : Prop := pruneIsRow.holds Try.pinned (OpenSpec.ofChange pruneIsSpec)

/-- ITS FALSE NEIGHBOUR: 'it returns false'. Refute it at one input. -/
def pruneIsWrong : ChangeSpec := { name := "pruneIs", fn := fun _ => fun
  | [d1, d2, d3] => { results := [.lit (.bool false)], args := [d1, d2, d3] }
  | _ => none }
def PruneIsWrongFalsely : Prop := pruneIsRow.holds Try.pinned (OpenSpec.ofChange pruneIsWrong)

/-- 'tollerlaw12.PruneFirst': WHATEVER THE INPUT: true; the input reads as it did. -/
def pruneFirstSpec : ChangeSpec := { name := "pruneFirst", fn := fun _ => fun
  | [d] => { results := [.lit (.bool true)], args := [d] }
  | _ => none }
def pruneFirstRow : OpenClaim := { program := "ytdeemlgkckpedaa", sum := "e96b72160f389dfb8736604554b5ec085d69d03d7c868b1aeaee60341394a1f3", func := "toller/tollerlaw12.PruneFirst", spec := "pruneFirst", unfollowed := true, recurses := true, plainKeys := false, apart := false }
def PruneFirstSaid : Prop := pruneFirstRow.holds Try.pinned (OpenSpec.ofChange pruneFirstSpec)

/-- ITS FALSE NEIGHBOUR: 'it returns false'. Refute it at one input. -/
def pruneFirstWrong : ChangeSpec := { name := "pruneFirst", fn := fun _ => fun
  | [d] => { results := [.lit (.bool false)], args := [d] }
  | _ => none }
def PruneFirstWrongFalsely : Prop := pruneFirstRow.holds Try.pinned (OpenSpec.ofChange pruneFirstWrong)

/-- 'tollerlaw12.PruneLeaves': WHATEVER THE INPUT: true; the input reads as it did. -/
def pruneLeavesSpec : ChangeSpec := { name := "pruneLeaves", fn := fun _ => fun
  | [d] => { results := [.lit (.bool true)], args := [d] }
  | _ => none }
def pruneLeavesRow : OpenClaim := { program := "ytdeemlgkckpedaa", sum := "e96b72160f389dfb8736604554b5ec085d69d03d7c868b1aeaee60341394a1f3", func := "toller/tollerlaw12.PruneLeaves", spec := "pruneLeaves", unfollowed := true, recurses := true, plainKeys := false, apart := false }
def PruneLeavesSaid : Prop := pruneLeavesRow.holds Try.pinned (OpenSpec.ofChange pruneLeavesSpec)

/-- ITS FALSE NEIGHBOUR: 'it returns false'. Refute it at one input. -/
def pruneLeavesWrong : ChangeSpec := { name := "pruneLeaves", fn := fun _ => fun
  | [d] => { results := [.lit (.bool false)], args := [d] }
  | _ => none }
def PruneLeavesWrongFalsely : Prop := pruneLeavesRow.holds Try.pinned (OpenSpec.ofChange pruneLeavesWrong)

/-- 'tollerlaw12.PruneTwice': WHATEVER THE INPUT: true; the input reads as it did. -/
def pruneTwiceSpec : ChangeSpec := { name := "pruneTwice", fn := fun _ => fun
  | [d1, d2, d3] => { results := [.lit (.bool true)], args := [d1, d2, d3] }
  | _ => none }
def pruneTwiceRow : OpenClaim := { program := "ytdeemlgkckpedaa", sum := "e96b72160f389dfb8736604554b5ec085d69d03d7c868b1aeaee60341394a1f3", func := "toller/tollerlaw12.PruneTwice", spec := "pruneTwice", unfollowed := true, recurses := true, plainKeys := false, apart := false }
def PruneTwiceSaid : Prop := pruneTwiceRow.holds Try.pinned (OpenSpec.ofChange pruneTwiceSpec)

/-- ITS FALSE NEIGHBOUR: 'it returns false'. Refute it at one input. -/
def pruneTwiceWrong : ChangeSpec := { name := "pruneTwice", fn := fun _ => fun
  | [d1, d2, d3] => { results := [.lit (.bool false)], args := [d1, d2, d3] }
  | _ => none }
def PruneTwiceWrongFalsely : Prop := pruneTwiceRow.holds Try.pinned (OpenSpec.ofChange pruneTwiceWrong)

/-- 'tollerlaw12.PruneKeeps': WHATEVER THE INPUT: true; the input reads as it did. -/
def pruneKeepsSpec : ChangeSpec := { name := "pruneKeeps", fn := fun _ => fun
  | [d1, d2] => { results := [.lit (.bool true)], args := [d1, d2] }
  | _ => none }
def pruneKeepsRow : OpenClaim := { program := "ytdeemlgkckpedaa", sum := "e96b72160f389dfb8736604554b5ec085d69d03d7c868b1aeaee60341394a1f3", func := "toller/tollerlaw12.PruneKeeps", spec := "pruneKeeps", unfollowed := true, recurses := true, plainKeys := false, apart := false }
def PruneKeepsSaid : Prop := pruneKeepsRow.holds Try.pinned (OpenSpec.ofChange pruneKeepsSpec)

/-- ITS FALSE NEIGHBOUR: 'it returns false'. Refute it at one input. -/
def pruneKeepsWrong : ChangeSpec := { name := "pruneKeeps", fn := fun _ => fun
  | [d1, d2] => { results := [.lit (.bool false)], args := [d1, d2] }
  | _ => none }
def PruneKeepsWrongFalsely : Prop := pruneKeepsRow.holds Try.pinned (OpenSpec.ofChange pruneKeepsWrong)

/-- 'tollerlaw14.VotesTurned': WHATEVER THE INPUT: true; the input reads as it did. -/
def votesTurnedSpec : ChangeSpec := { name := "votesTurned", fn := fun _ => fun
  | [d1, d2, d3, d4] => { results := [.lit (.bool true)], args := [d1, d2, d3, d4] }
  | _ => none }
def votesTurnedRow : OpenClaim := { program := "ytdeemlgkckpedaa", sum := "e96b72160f389dfb8736604554b5ec085d69d03d7c868b1aeaee60341394a1f3", func := "toller/tollerlaw14.VotesTurned", spec := "votesTurned", inPlace := ["math/bits.Add64"], unfollowed := true, recurses := true, plainKeys := false, apart := false }
def VotesTurnedSaid : Prop := votesTurnedRow.holds Try.pinned (OpenSpec.ofChange votesTurnedSpec)

/-- ITS FALSE NEIGHBOUR: 'it returns false'. Refute it at one input. -/
def votesTurnedWrong : ChangeSpec := { name := "votesTurned", fn := fun _ => fun
  | [d1, d2, d3, d4] => { results := [.lit (.bool false)], args := [d1, d2, d3, d4] }
  | _ => none }
def VotesTurnedWrongFalsely : Prop := votesTurnedRow.holds Try.pinned (OpenSpec.ofChange votesTurnedWrong)

/-- 'tollerlaw14.VotesOnce': WHATEVER THE INPUT: true; the input reads as it did. -/
def votesOnceSpec : ChangeSpec := { name := "votesOnce", fn := fun _ => fun
  | [d1, d2] => { results := [.lit (.bool true)], args := [d1, d2] }
  | _ => none }
def votesOnceRow : OpenClaim := { program := "ytdeemlgkckpedaa", sum := "e96b72160f389dfb8736604554b5ec085d69d03d7c868b1aeaee60341394a1f3", func := "toller/tollerlaw14.VotesOnce", spec := "votesOnce", inPlace := ["math/bits.Add64"], unfollowed := true, recurses := true, plainKeys := false, apart := false }
def VotesOnceSaid : Prop := votesOnceRow.holds Try.pinned (OpenSpec.ofChange votesOnceSpec)

/-- ITS FALSE NEIGHBOUR: 'it returns false'. Refute it at one input. -/
def votesOnceWrong : ChangeSpec := { name := "votesOnce", fn := fun _ => fun
  | [d1, d2] => { results := [.lit (.bool false)], args := [d1, d2] }
  | _ => none }
def VotesOnceWrongFalsely : Prop := votesOnceRow.holds Try.pinned (OpenSpec.ofChange votesOnceWrong)

/-- 'tollerlaw14.VotesSum': WHATEVER THE INPUT: true; the input reads as it did. -/
def votesSumSpec : ChangeSpec := { name := "votesSum", fn := fun _ => fun
  | [d1, d2] => { results := [.lit (.bool true)], args := [d1, d2] }
  | _ => none }
def votesSumRow : OpenClaim := { program := "ytdeemlgkckpedaa", sum := "e96b72160f389dfb8736604554b5ec085d69d03d7c868b1aeaee60341394a1f3", func := "toller/tollerlaw14.VotesSum", spec := "votesSum", inPlace := ["math/bits.Add64"], unfollowed := true, recurses := true, plainKeys := false, apart := false }
def VotesSumSaid : Prop := votesSumRow.holds Try.pinned (OpenSpec.ofChange votesSumSpec)

/-- ITS FALSE NEIGHBOUR: 'it returns false'. Refute it at one input. -/
def votesSumWrong : ChangeSpec := { name := "votesSum", fn := fun _ => fun
  | [d1, d2] => { results := [.lit (.bool false)], args := [d1, d2] }
  | _ => none }
def VotesSumWrongFalsely : Prop := votesSumRow.holds Try.pinned (OpenSpec.ofChange votesSumWrong)

/-- 'tollerlaw14.VotesUnknown': WHATEVER THE INPUT: true; the input reads as it did. -/
def votesUnknownSpec : ChangeSpec := { name := "votesUnknown", fn := fun _ => fun
  | [d1, d2, d3] => { results := [.lit (.bool true)], args := [d1, d2, d3] }
  | _ => none }
def votesUnknownRow : OpenClaim := { program := "ytdeemlgkckpedaa", sum := "e96b72160f389dfb8736604554b5ec085d69d03d7c868b1aeaee60341394a1f3", func := "toller/tollerlaw14.VotesUnknown", spec := "votesUnknown", inPlace := ["math/bits.Add64"], unfollowed := true, recurses := true, plainKeys := false, apart := false }
def VotesUnknownSaid : Prop := votesUnknownRow.holds Try.pinned (OpenSpec.ofChange votesUnknownSpec)

/-- ITS FALSE NEIGHBOUR: 'it returns false'. Refute it at one input. -/
def votesUnknownWrong : ChangeSpec := { name := "votesUnknown", fn := fun _ => fun
  | [d1, d2, d3] => { results := [.lit (.bool false)], args := [d1, d2, d3] }
  | _ => none }
def VotesUnknownWrongFalsely : Prop := votesUnknownRow.holds Try.pinned (OpenSpec.ofChange votesUnknownWrong)

/-- 'tollerlaw14.VotesKeep': WHATEVER THE INPUT: true; the input reads as it did. -/
def votesKeepSpec : ChangeSpec := { name := "votesKeep", fn := fun _ => fun
  | [d1, d2, d3] => { results := [.lit (.bool true)], args := [d1, d2, d3] }
  | _ => none }
def votesKeepRow : OpenClaim := { program := "ytdeemlgkckpedaa", sum := "e96b72160f389dfb8736604554b5ec085d69d03d7c868b1aeaee60341394a1f3", func := "toller/tollerlaw14.VotesKeep", spec := "votesKeep", inPlace := ["math/bits.Add64"], unfollowed := true, recurses := true, plainKeys := false, apart := false }
def VotesKeepSaid : Prop := votesKeepRow.holds Try.pinned (OpenSpec.ofChange votesKeepSpec)

/-- ITS FALSE NEIGHBOUR: 'it returns false'. Refute it at one input. -/
def votesKeepWrong : ChangeSpec := { name := "votesKeep", fn := fun _ => fun
  | [d1, d2, d3] => { results := [.lit (.bool false)], args := [d1, d2, d3] }
  | _ => none }
def VotesKeepWrongFalsely : Prop := votesKeepRow.holds Try.pinned (OpenSpec.ofChange votesKeepWrong)

/- THE SECOND FORM. 'bulk': how many values and letters a reading holds, each counted each time it is reached (what is shared counts as often as it is met; a slice's spare places count too). A statement '..UptoSaid' is the law's where the arguments, and the package variables that the reading takes, are together of bulk at most 1048576: NARROWER than '..Said'. Prove '..Said' where nothing that the law and all that it calls make is longer than what came in: it says more and counts as full. Else prove '..UptoSaid'. A law counts once. -/
mutual
def uptoBulk {H : Type} : DataW H → Nat
  | .lit (.string bytes) => bytes.length + 1
  | .lit _ => 1
  | .nil => 1
  | .ptr d => uptoBulk d + 1
  | .slice elems spare => uptoBulkAll elems + uptoBulkAll spare + 1
  | .agg parts => uptoBulkAll parts + 1
  | .iface _ d => uptoBulk d + 1
  | .map entries => uptoBulkEntries entries + 1
  | .held _ => 1
def uptoBulkAll {H : Type} : List (DataW H) → Nat
  | [] => 0
  | d :: r => uptoBulk d + uptoBulkAll r
def uptoBulkEntries {H : Type} : List (Lit × DataW H) → Nat
  | [] => 0
  | x :: r => uptoBulkEntry x + uptoBulkEntries r
def uptoBulkEntry {H : Type} : Lit × DataW H → Nat
  | (.string bytes, d) => bytes.length + uptoBulk d + 1
  | (_, d) => uptoBulk d + 1
 end
def uptoSmall : (H : Type) → List (DataW H) → Bool := fun _ ds => decide (uptoBulkAll ds ≤ 1048576)
def OpenSpec.upto (s : _root_.Go.ChangeSpec) : _root_.Go.OpenSpec := { _root_.Go.OpenSpec.ofChange s with cond := some uptoSmall }

/-- 'tollerlaw12.PruneIs', WHERE WHAT IT READS IS OF BULK AT MOST 1048576: true; the input reads as it did. -/
def pruneIsUptoRow : OpenClaim := { program := "ytdeemlgkckpedaa", sum := "e96b72160f389dfb8736604554b5ec085d69d03d7c868b1aeaee60341394a1f3", func := "toller/tollerlaw12.PruneIs", spec := "pruneIs", unfollowed := true, recurses := true, plainKeys := false, apart := false, narrowed := true }
def PruneIsUptoSaid : Prop := pruneIsUptoRow.holds Try.pinned (OpenSpec.upto pruneIsSpec)

/-- 'tollerlaw12.PruneFirst', WHERE WHAT IT READS IS OF BULK AT MOST 1048576: true; the input reads as it did. -/
def pruneFirstUptoRow : OpenClaim := { program := "ytdeemlgkckpedaa", sum := "e96b72160f389dfb8736604554b5ec085d69d03d7c868b1aeaee60341394a1f3", func := "toller/tollerlaw12.PruneFirst", spec := "pruneFirst", unfollowed := true, recurses := true, plainKeys := false, apart := false, narrowed := true }
def PruneFirstUptoSaid : Prop := pruneFirstUptoRow.holds Try.pinned (OpenSpec.upto pruneFirstSpec)

/-- 'tollerlaw12.PruneLeaves', WHERE WHAT IT READS IS OF BULK AT MOST 1048576: true; the input reads as it did. -/
def pruneLeavesUptoRow : OpenClaim := { program := "ytdeemlgkckpedaa", sum := "e96b72160f389dfb8736604554b5ec085d69d03d7c868b1aeaee60341394a1f3", func := "toller/tollerlaw12.PruneLeaves", spec := "pruneLeaves", unfollowed := true, recurses := true, plainKeys := false, apart := false, narrowed := true }
def PruneLeavesUptoSaid : Prop := pruneLeavesUptoRow.holds Try.pinned (OpenSpec.upto pruneLeavesSpec)

/-- 'tollerlaw12.PruneTwice', WHERE WHAT IT READS IS OF BULK AT MOST 1048576: true; the input reads as it did. -/
def pruneTwiceUptoRow : OpenClaim := { program := "ytdeemlgkckpedaa", sum := "e96b72160f389dfb8736604554b5ec085d69d03d7c868b1aeaee60341394a1f3", func := "toller/tollerlaw12.PruneTwice", spec := "pruneTwice", unfollowed := true, recurses := true, plainKeys := false, apart := false, narrowed := true }
def PruneTwiceUptoSaid : Prop := pruneTwiceUptoRow.holds Try.pinned (OpenSpec.upto pruneTwiceSpec)

/-- 'tollerlaw12.PruneKeeps', WHERE WHAT IT READS IS OF BULK AT MOST 1048576: true; the input reads as it did. -/
def pruneKeepsUptoRow : OpenClaim := { program := "ytdeemlgkckpedaa", sum := "e96b72160f389dfb8736604554b5ec085d69d03d7c868b1aeaee60341394a1f3", func := "toller/tollerlaw12.PruneKeeps", spec := "pruneKeeps", unfollowed := true, recurses := true, plainKeys := false, apart := false, narrowed := true }
def PruneKeepsUptoSaid : Prop := pruneKeepsUptoRow.holds Try.pinned (OpenSpec.upto pruneKeepsSpec)

/-- 'tollerlaw14.VotesTurned', WHERE WHAT IT READS IS OF BULK AT MOST 1048576: true; the input reads as it did. -/
def votesTurnedUptoRow : OpenClaim := { program := "ytdeemlgkckpedaa", sum := "e96b72160f389dfb8736604554b5ec085d69d03d7c868b1aeaee60341394a1f3", func := "toller/tollerlaw14.VotesTurned", spec := "votesTurned", inPlace := ["math/bits.Add64"], unfollowed := true, recurses := true, plainKeys := false, apart := false, narrowed := true }
def VotesTurnedUptoSaid : Prop := votesTurnedUptoRow.holds Try.pinned (OpenSpec.upto votesTurnedSpec)

/-- 'tollerlaw14.VotesOnce', WHERE WHAT IT READS IS OF BULK AT MOST 1048576: true; the input reads as it did. -/
def votesOnceUptoRow : OpenClaim := { program := "ytdeemlgkckpedaa", sum := "e96b72160f389dfb8736604554b5ec085d69d03d7c868b1aeaee60341394a1f3", func := "toller/tollerlaw14.VotesOnce", spec := "votesOnce", inPlace := ["math/bits.Add64"], unfollowed := true, recurses := true, plainKeys := false, apart := false, narrowed := true }
def VotesOnceUptoSaid : Prop := votesOnceUptoRow.holds Try.pinned (OpenSpec.upto votesOnceSpec)

/-- 'tollerlaw14.VotesSum', WHERE WHAT IT READS IS OF BULK AT MOST 1048576: true; the input reads as it did. -/
def votesSumUptoRow : OpenClaim := { program := "ytdeemlgkckpedaa", sum := "e96b72160f389dfb8736604554b5ec085d69d03d7c868b1aeaee60341394a1f3", func := "toller/tollerlaw14.VotesSum", spec := "votesSum", inPlace := ["math/bits.Add64"], unfollowed := true, recurses := true, plainKeys := false, apart := false, narrowed := true }
def VotesSumUptoSaid : Prop := votesSumUptoRow.holds Try.pinned (OpenSpec.upto votesSumSpec)

/-- 'tollerlaw14.VotesUnknown', WHERE WHAT IT READS IS OF BULK AT MOST 1048576: true; the input reads as it did. -/
def votesUnknownUptoRow : OpenClaim := { program := "ytdeemlgkckpedaa", sum := "e96b72160f389dfb8736604554b5ec085d69d03d7c868b1aeaee60341394a1f3", func := "toller/tollerlaw14.VotesUnknown", spec := "votesUnknown", inPlace := ["math/bits.Add64"], unfollowed := true, recurses := true, plainKeys := false, apart := false, narrowed := true }
def VotesUnknownUptoSaid : Prop := votesUnknownUptoRow.holds Try.pinned (OpenSpec.upto votesUnknownSpec)

/-- 'tollerlaw14.VotesKeep', WHERE WHAT IT READS IS OF BULK AT MOST 1048576: true; the input reads as it did. -/
def votesKeepUptoRow : OpenClaim := { program := "ytdeemlgkckpedaa", sum := "e96b72160f389dfb8736604554b5ec085d69d03d7c868b1aeaee60341394a1f3", func := "toller/tollerlaw14.VotesKeep", spec := "votesKeep", inPlace := ["math/bits.Add64"], unfollowed := true, recurses := true, plainKeys := false, apart := false, narrowed := true }
def VotesKeepUptoSaid : Prop := votesKeepUptoRow.holds Try.pinned (OpenSpec.upto votesKeepSpec)

end Rows
end Go.Proofs.Ytdeemlgkckpedaa
