/-
  No cell of these rows narrows 'for every input' (looked for: loops, veiled, ifaces, maps, wideKeys, modest, calm, conditions, laid).
  DERIVED. THE GIVEN ROWS OF THIS SEAT. 12 by the template 'for every input the law returns true; each argument reads behind the call as it read before'; 0 by the template 'total and deterministic' (their statements: YtbgnabofcceajaaTotals.lean).
  GIVEN WITH THE SEED: the statements are not yours to turn. If you find one false, say at which input.
  Laid BY PROGRAM, IN A SANDBOX (cutbox-rows.mjs): the forced cells as the released guide's own fill.sh prints them over the translation 848fe6a8c569d546… (all of the seat's roots in one cut). By AI agents, Wed Nov 11 2026. No macro, syntax, notation, axiom, sorry.
-/
import Derived.Test.YtbgnabofcceajaaChecked
import GoSem.Claim
import GoSem.ClaimJoined
import GoSem.ClaimMapViews
import Derived.JoinedTies
import Derived.KernelRfl
namespace Go.Proofs.Ytbgnabofcceajaa
/- THE CELL 'sum', in the pinned program and in every row, IS THE sha256 OF THE DUMP (.gsa) THAT YtbgnabofcceajaaProg.lean LOADS. Nothing in Lean hashes anything: it is a label: what it is worth is what the hold of that sum in a sandbox is worth. -/
noncomputable def Try.pinned : Pinned := { name := "ytbgnabofcceajaa", sum := "848fe6a8c569d546ff15290d2890c81370220afe0b5da798a4bc7229808a1b84", checked := Try.checked }
namespace Rows
def none {H : Type} : Left H := { results := [], args := [] }

/-- 'tollerlaw10.TreeOrder': WHATEVER THE INPUT: true; the input reads as it did. -/
def treeOrderSpec : ChangeSpec := { name := "treeOrder", fn := fun _ => fun
  | [d1, d2, d3, d4] => { results := [.lit (.bool true)], args := [d1, d2, d3, d4] }
  | _ => none }
def treeOrderRow : OpenClaim := { program := "ytbgnabofcceajaa", sum := "848fe6a8c569d546ff15290d2890c81370220afe0b5da798a4bc7229808a1b84", func := "toller/tollerlaw10.TreeOrder", spec := "treeOrder", plainKeys := false, apart := false }
def TreeOrderSaid : Prop := treeOrderRow.holds Try.pinned (OpenSpec.ofChange treeOrderSpec)

/-- ITS FALSE NEIGHBOUR: 'it returns false'. Refute it at one input. -/
def treeOrderWrong : ChangeSpec := { name := "treeOrder", fn := fun _ => fun
  | [d1, d2, d3, d4] => { results := [.lit (.bool false)], args := [d1, d2, d3, d4] }
  | _ => none }
def TreeOrderWrongFalsely : Prop := treeOrderRow.holds Try.pinned (OpenSpec.ofChange treeOrderWrong)

/-- 'tollerlaw10.TreeOnce': WHATEVER THE INPUT: true; the input reads as it did. -/
def treeOnceSpec : ChangeSpec := { name := "treeOnce", fn := fun _ => fun
  | [d1, d2] => { results := [.lit (.bool true)], args := [d1, d2] }
  | _ => none }
def treeOnceRow : OpenClaim := { program := "ytbgnabofcceajaa", sum := "848fe6a8c569d546ff15290d2890c81370220afe0b5da798a4bc7229808a1b84", func := "toller/tollerlaw10.TreeOnce", spec := "treeOnce", plainKeys := false, apart := false }
def TreeOnceSaid : Prop := treeOnceRow.holds Try.pinned (OpenSpec.ofChange treeOnceSpec)

/-- ITS FALSE NEIGHBOUR: 'it returns false'. Refute it at one input. -/
def treeOnceWrong : ChangeSpec := { name := "treeOnce", fn := fun _ => fun
  | [d1, d2] => { results := [.lit (.bool false)], args := [d1, d2] }
  | _ => none }
def TreeOnceWrongFalsely : Prop := treeOnceRow.holds Try.pinned (OpenSpec.ofChange treeOnceWrong)

/-- 'tollerlaw10.TreeFull': WHATEVER THE INPUT: true; the input reads as it did. -/
def treeFullSpec : ChangeSpec := { name := "treeFull", fn := fun _ => fun
  | [d1, d2] => { results := [.lit (.bool true)], args := [d1, d2] }
  | _ => none }
def treeFullRow : OpenClaim := { program := "ytbgnabofcceajaa", sum := "848fe6a8c569d546ff15290d2890c81370220afe0b5da798a4bc7229808a1b84", func := "toller/tollerlaw10.TreeFull", spec := "treeFull", plainKeys := false, apart := false }
def TreeFullSaid : Prop := treeFullRow.holds Try.pinned (OpenSpec.ofChange treeFullSpec)

/-- ITS FALSE NEIGHBOUR: 'it returns false'. Refute it at one input. -/
def treeFullWrong : ChangeSpec := { name := "treeFull", fn := fun _ => fun
  | [d1, d2] => { results := [.lit (.bool false)], args := [d1, d2] }
  | _ => none }
def TreeFullWrongFalsely : Prop := treeFullRow.holds Try.pinned (OpenSpec.ofChange treeFullWrong)

/-- 'tollerlaw10.TreeBelow': WHATEVER THE INPUT: true; the input reads as it did. -/
def treeBelowSpec : ChangeSpec := { name := "treeBelow", fn := fun _ => fun
  | [d1, d2, d3, d4] => { results := [.lit (.bool true)], args := [d1, d2, d3, d4] }
  | _ => none }
def treeBelowRow : OpenClaim := { program := "ytbgnabofcceajaa", sum := "848fe6a8c569d546ff15290d2890c81370220afe0b5da798a4bc7229808a1b84", func := "toller/tollerlaw10.TreeBelow", spec := "treeBelow", plainKeys := false, apart := false }
def TreeBelowSaid : Prop := treeBelowRow.holds Try.pinned (OpenSpec.ofChange treeBelowSpec)

/-- ITS FALSE NEIGHBOUR: 'it returns false'. Refute it at one input. -/
def treeBelowWrong : ChangeSpec := { name := "treeBelow", fn := fun _ => fun
  | [d1, d2, d3, d4] => { results := [.lit (.bool false)], args := [d1, d2, d3, d4] }
  | _ => none }
def TreeBelowWrongFalsely : Prop := treeBelowRow.holds Try.pinned (OpenSpec.ofChange treeBelowWrong)

/-- 'tollerlaw10.TreeGrows': WHATEVER THE INPUT: true; the input reads as it did. -/
def treeGrowsSpec : ChangeSpec := { name := "treeGrows", fn := fun _ => fun
  | [d1, d2, d3, d4, d5] => { results := [.lit (.bool true)], args := [d1, d2, d3, d4, d5] }
  | _ => none }
def treeGrowsRow : OpenClaim := { program := "ytbgnabofcceajaa", sum := "848fe6a8c569d546ff15290d2890c81370220afe0b5da798a4bc7229808a1b84", func := "toller/tollerlaw10.TreeGrows", spec := "treeGrows", unfollowed := true, recurses := true, plainKeys := false, apart := false }
def TreeGrowsSaid : Prop := treeGrowsRow.holds Try.pinned (OpenSpec.ofChange treeGrowsSpec)

/-- ITS FALSE NEIGHBOUR: 'it returns false'. Refute it at one input. -/
def treeGrowsWrong : ChangeSpec := { name := "treeGrows", fn := fun _ => fun
  | [d1, d2, d3, d4, d5] => { results := [.lit (.bool false)], args := [d1, d2, d3, d4, d5] }
  | _ => none }
def TreeGrowsWrongFalsely : Prop := treeGrowsRow.holds Try.pinned (OpenSpec.ofChange treeGrowsWrong)

/-- 'tollerlaw10.TreeKids': WHATEVER THE INPUT: true; the input reads as it did. -/
def treeKidsSpec : ChangeSpec := { name := "treeKids", fn := fun _ => fun
  | [d1, d2] => { results := [.lit (.bool true)], args := [d1, d2] }
  | _ => none }
def treeKidsRow : OpenClaim := { program := "ytbgnabofcceajaa", sum := "848fe6a8c569d546ff15290d2890c81370220afe0b5da798a4bc7229808a1b84", func := "toller/tollerlaw10.TreeKids", spec := "treeKids", unfollowed := true, recurses := true, plainKeys := false, apart := false }
def TreeKidsSaid : Prop := treeKidsRow.holds Try.pinned (OpenSpec.ofChange treeKidsSpec)

/-- ITS FALSE NEIGHBOUR: 'it returns false'. Refute it at one input. -/
def treeKidsWrong : ChangeSpec := { name := "treeKids", fn := fun _ => fun
  | [d1, d2] => { results := [.lit (.bool false)], args := [d1, d2] }
  | _ => none }
def TreeKidsWrongFalsely : Prop := treeKidsRow.holds Try.pinned (OpenSpec.ofChange treeKidsWrong)

/-- 'tollerlaw11.WeighDoes': WHATEVER THE INPUT: true; the input reads as it did. -/
def weighDoesSpec : ChangeSpec := { name := "weighDoes", fn := fun _ => fun
  | [d1, d2] => { results := [.lit (.bool true)], args := [d1, d2] }
  | _ => none }
def weighDoesRow : OpenClaim := { program := "ytbgnabofcceajaa", sum := "848fe6a8c569d546ff15290d2890c81370220afe0b5da798a4bc7229808a1b84", func := "toller/tollerlaw11.WeighDoes", spec := "weighDoes", unfollowed := true, recurses := true, plainKeys := false, apart := false }
def WeighDoesSaid : Prop := weighDoesRow.holds Try.pinned (OpenSpec.ofChange weighDoesSpec)

/-- ITS FALSE NEIGHBOUR: 'it returns false'. Refute it at one input. -/
def weighDoesWrong : ChangeSpec := { name := "weighDoes", fn := fun _ => fun
  | [d1, d2] => { results := [.lit (.bool false)], args := [d1, d2] }
  | _ => none }
def WeighDoesWrongFalsely : Prop := weighDoesRow.holds Try.pinned (OpenSpec.ofChange weighDoesWrong)

/-- 'tollerlaw11.WeighTurns': WHATEVER THE INPUT: true; the input reads as it did. -/
def weighTurnsSpec : ChangeSpec := { name := "weighTurns", fn := fun _ => fun
  | [d1, d2, d3] => { results := [.lit (.bool true)], args := [d1, d2, d3] }
  | _ => none }
def weighTurnsRow : OpenClaim := { program := "ytbgnabofcceajaa", sum := "848fe6a8c569d546ff15290d2890c81370220afe0b5da798a4bc7229808a1b84", func := "toller/tollerlaw11.WeighTurns", spec := "weighTurns", unfollowed := true, recurses := true, plainKeys := false, apart := false }
def WeighTurnsSaid : Prop := weighTurnsRow.holds Try.pinned (OpenSpec.ofChange weighTurnsSpec)

/-- ITS FALSE NEIGHBOUR: 'it returns false'. Refute it at one input. -/
def weighTurnsWrong : ChangeSpec := { name := "weighTurns", fn := fun _ => fun
  | [d1, d2, d3] => { results := [.lit (.bool false)], args := [d1, d2, d3] }
  | _ => none }
def WeighTurnsWrongFalsely : Prop := weighTurnsRow.holds Try.pinned (OpenSpec.ofChange weighTurnsWrong)

/-- 'tollerlaw11.WeighSums': WHATEVER THE INPUT: true; the input reads as it did. -/
def weighSumsSpec : ChangeSpec := { name := "weighSums", fn := fun _ => fun
  | [d] => { results := [.lit (.bool true)], args := [d] }
  | _ => none }
def weighSumsRow : OpenClaim := { program := "ytbgnabofcceajaa", sum := "848fe6a8c569d546ff15290d2890c81370220afe0b5da798a4bc7229808a1b84", func := "toller/tollerlaw11.WeighSums", spec := "weighSums", unfollowed := true, recurses := true, plainKeys := false, apart := false }
def WeighSumsSaid : Prop := weighSumsRow.holds Try.pinned (OpenSpec.ofChange weighSumsSpec)

/-- ITS FALSE NEIGHBOUR: 'it returns false'. Refute it at one input. -/
def weighSumsWrong : ChangeSpec := { name := "weighSums", fn := fun _ => fun
  | [d] => { results := [.lit (.bool false)], args := [d] }
  | _ => none }
def WeighSumsWrongFalsely : Prop := weighSumsRow.holds Try.pinned (OpenSpec.ofChange weighSumsWrong)

/-- 'tollerlaw11.WeighMore': WHATEVER THE INPUT: true; the input reads as it did. -/
def weighMoreSpec : ChangeSpec := { name := "weighMore", fn := fun _ => fun
  | [d1, d2, d3] => { results := [.lit (.bool true)], args := [d1, d2, d3] }
  | _ => none }
def weighMoreRow : OpenClaim := { program := "ytbgnabofcceajaa", sum := "848fe6a8c569d546ff15290d2890c81370220afe0b5da798a4bc7229808a1b84", func := "toller/tollerlaw11.WeighMore", spec := "weighMore", unfollowed := true, recurses := true, plainKeys := false, apart := false }
def WeighMoreSaid : Prop := weighMoreRow.holds Try.pinned (OpenSpec.ofChange weighMoreSpec)

/-- ITS FALSE NEIGHBOUR: 'it returns false'. Refute it at one input. -/
def weighMoreWrong : ChangeSpec := { name := "weighMore", fn := fun _ => fun
  | [d1, d2, d3] => { results := [.lit (.bool false)], args := [d1, d2, d3] }
  | _ => none }
def WeighMoreWrongFalsely : Prop := weighMoreRow.holds Try.pinned (OpenSpec.ofChange weighMoreWrong)

/-- 'tollerlaw11.WeighWay': WHATEVER THE INPUT: true; the input reads as it did. -/
def weighWaySpec : ChangeSpec := { name := "weighWay", fn := fun _ => fun
  | [d] => { results := [.lit (.bool true)], args := [d] }
  | _ => none }
def weighWayRow : OpenClaim := { program := "ytbgnabofcceajaa", sum := "848fe6a8c569d546ff15290d2890c81370220afe0b5da798a4bc7229808a1b84", func := "toller/tollerlaw11.WeighWay", spec := "weighWay", unfollowed := true, recurses := true, plainKeys := false, apart := false }
def WeighWaySaid : Prop := weighWayRow.holds Try.pinned (OpenSpec.ofChange weighWaySpec)

/-- ITS FALSE NEIGHBOUR: 'it returns false'. Refute it at one input. -/
def weighWayWrong : ChangeSpec := { name := "weighWay", fn := fun _ => fun
  | [d] => { results := [.lit (.bool false)], args := [d] }
  | _ => none }
def WeighWayWrongFalsely : Prop := weighWayRow.holds Try.pinned (OpenSpec.ofChange weighWayWrong)

/-- 'tollerlaw11.WeighTies': WHATEVER THE INPUT: true; the input reads as it did. -/
def weighTiesSpec : ChangeSpec := { name := "weighTies", fn := fun _ => fun
  | [d] => { results := [.lit (.bool true)], args := [d] }
  | _ => none }
def weighTiesRow : OpenClaim := { program := "ytbgnabofcceajaa", sum := "848fe6a8c569d546ff15290d2890c81370220afe0b5da798a4bc7229808a1b84", func := "toller/tollerlaw11.WeighTies", spec := "weighTies", unfollowed := true, recurses := true, plainKeys := false, apart := false }
def WeighTiesSaid : Prop := weighTiesRow.holds Try.pinned (OpenSpec.ofChange weighTiesSpec)

/-- ITS FALSE NEIGHBOUR: 'it returns false'. Refute it at one input. -/
def weighTiesWrong : ChangeSpec := { name := "weighTies", fn := fun _ => fun
  | [d] => { results := [.lit (.bool false)], args := [d] }
  | _ => none }
def WeighTiesWrongFalsely : Prop := weighTiesRow.holds Try.pinned (OpenSpec.ofChange weighTiesWrong)

/- THE SECOND FORM. 'bulk': how many values and letters a reading holds, each counted each time it is reached (what is shared counts as often as it is met; a slice's spare places count too). A statement '..UptoSaid' is the law's where the arguments, and the package variables that the reading takes, are together of bulk at most 1048576: NARROWER than '..Said'. Prove '..Said' where nothing that the law and all that it calls make is longer than what came in: it says more and counts as full. Else prove '..UptoSaid'. A law counts once. -/
mutual
def uptoBulk {H : Type} : DataW H → Nat
  | .lit (.string bytes) => bytes.length + 1
  | .lit _ => 1
  | .nil => 1
  | .ptr d => uptoBulk d + 1
  | .slice elems spare => uptoBulkAll elems + uptoBulkAll spare + 1
  | .agg parts => uptoBulkAll parts + 1
  | .iface _ d => uptoBulk d + 1
  | .map entries => uptoBulkEntries entries + 1
  | .held _ => 1
def uptoBulkAll {H : Type} : List (DataW H) → Nat
  | [] => 0
  | d :: r => uptoBulk d + uptoBulkAll r
def uptoBulkEntries {H : Type} : List (Lit × DataW H) → Nat
  | [] => 0
  | x :: r => uptoBulkEntry x + uptoBulkEntries r
def uptoBulkEntry {H : Type} : Lit × DataW H → Nat
  | (.string bytes, d) => bytes.length + uptoBulk d + 1
  | (_, d) => uptoBulk d + 1
 end
def uptoSmall : (H : Type) → List (DataW H) → Bool := fun _ ds => decide (uptoBulkAll ds ≤ 1048576)
def OpenSpec.upto (s : _root_.Go.ChangeSpec) : _root_.Go.OpenSpec := { _root_.Go.OpenSpec.ofChange s with cond := some uptoSmall }

/-- 'tollerlaw10.TreeOrder', WHERE WHAT IT READS IS OF BULK AT MOST 1048576: true; the input reads as it did. -/
def treeOrderUptoRow : OpenClaim := { program := "ytbgnabofcceajaa", sum := "848fe6a8c569d546ff15290d2890c81370220afe0b5da798a4bc7229808a1b84", func := "toller/tollerlaw10.TreeOrder", spec := "treeOrder", plainKeys := false, apart := false, narrowed := true }
def TreeOrderUptoSaid : Prop := treeOrderUptoRow.holds Try.pinned (OpenSpec.upto treeOrderSpec)

/-- 'tollerlaw10.TreeOnce', WHERE WHAT IT READS IS OF BULK AT MOST 1048576: true; the input reads as it did. -/
def treeOnceUptoRow : OpenClaim := { program := "ytbgnabofcceajaa", sum := "848fe6a8c569d546ff15290d2890c81370220afe0b5da798a4bc7229808a1b84", func := "toller/tollerlaw10.TreeOnce", spec := "treeOnce", plainKeys := false, apart := false, narrowed := true }
def TreeOnceUptoSaid : Prop := treeOnceUptoRow.holds Try.pinned (OpenSpec.upto treeOnceSpec)

/-- 'tollerlaw10.TreeFull', WHERE WHAT IT READS IS OF BULK AT MOST 1048576: true; the input reads as it did. -/
def treeFullUptoRow : OpenClaim := { program := "ytbgnabofcceajaa", sum := "848fe6a8c569d546ff15290d2890c81370220afe0b5da798a4bc7229808a1b84", func := "toller/tollerlaw10.TreeFull", spec := "treeFull", plainKeys := false, apart := false, narrowed := true }
def TreeFullUptoSaid : Prop := treeFullUptoRow.holds Try.pinned (OpenSpec.upto treeFullSpec)

/-- 'tollerlaw10.TreeBelow', WHERE WHAT IT READS IS OF BULK AT MOST 1048576: true; the input reads as it did. -/
def treeBelowUptoRow : OpenClaim := { program := "ytbgnabofcceajaa", sum := "848fe6a8c569d546ff15290d2890c81370220afe0b5da798a4bc7229808a1b84", func := "toller/tollerlaw10.TreeBelow", spec := "treeBelow", plainKeys := false, apart := false, narrowed := true }
def TreeBelowUptoSaid : Prop := treeBelowUptoRow.holds Try.pinned (OpenSpec.upto treeBelowSpec)

/-- 'tollerlaw10.TreeGrows', WHERE WHAT IT READS IS OF BULK AT MOST 1048576: true; the input reads as it did. -/
def treeGrowsUptoRow : OpenClaim := { program := "ytbgnabofcceajaa", sum := "848fe6a8c569d546ff15290d2890c81370220afe0b5da798a4bc7229808a1b84", func := "toller/tollerlaw10.TreeGrows", spec := "treeGrows", unfollowed := true, recurses := true, plainKeys := false, apart := false, narrowed := true }
def TreeGrowsUptoSaid : Prop := treeGrowsUptoRow.holds Try.pinned (OpenSpec.upto treeGrowsSpec)

/-- 'tollerlaw10.TreeKids', WHERE WHAT IT READS IS OF BULK AT MOST 1048576: true; the input reads as it did. -/
def treeKidsUptoRow : OpenClaim := { program := "ytbgnabofcceajaa", sum := "848fe6a8c569d546ff15290d2890c81370220afe0b5da798a4bc7229808a1b84", func := "toller/tollerlaw10.TreeKids", spec := "treeKids", unfollowed := true, recurses := true, plainKeys := false, apart := false, narrowed := true }
def TreeKidsUptoSaid : Prop := treeKidsUptoRow.holds Try.pinned (OpenSpec.upto treeKidsSpec)

/-- 'tollerlaw11.WeighDoes', WHERE WHAT IT READS IS OF BULK AT MOST 1048576: true; the input reads as it did. -/
def weighDoesUptoRow : OpenClaim := { program := "ytbgnabofcceajaa", sum := "848fe6a8c569d546ff15290d2890c81370220afe0b5da798a4bc7229808a1b84", func := "toller/tollerlaw11.WeighDoes", spec := "weighDoes", unfollowed := true, recurses := true, plainKeys := false, apart := false, narrowed := true }
def WeighDoesUptoSaid : Prop := weighDoesUptoRow.holds Try.pinned (OpenSpec.upto weighDoesSpec)

/-- 'tollerlaw11.WeighTurns', WHERE WHAT IT READS IS OF BULK AT MOST 1048576: true; the input reads as it did. -/
def weighTurnsUptoRow : OpenClaim := { program := "ytbgnabofcceajaa", sum := "848fe6a8c569d546ff15290d2890c81370220afe0b5da798a4bc7229808a1b84", func := "toller/tollerlaw11.WeighTurns", spec := "weighTurns", unfollowed := true, recurses := true, plainKeys := false, apart := false, narrowed := true }
def WeighTurnsUptoSaid : Prop := weighTurnsUptoRow.holds Try.pinned (OpenSpec.upto weighTurnsSpec)

/-- 'tollerlaw11.WeighSums', WHERE WHAT IT READS IS OF BULK AT MOST 1048576: true; the input reads as it did. -/
def weighSumsUptoRow : OpenClaim := { program := "ytbgnabofcceajaa", sum := "848fe6a8c569d546ff15290d2890c81370220afe0b5da798a4bc7229808a1b84", func := "toller/tollerlaw11.WeighSums", spec := "weighSums", unfollowed := true, recurses := true, plainKeys := false, apart := false, narrowed := true }
def WeighSumsUptoSaid : Prop := weighSumsUptoRow.holds Try.pinned (OpenSpec.upto weighSumsSpec)

/-- 'tollerlaw11.WeighMore', WHERE WHAT IT READS IS OF BULK AT MOST 1048576: true; the input reads as it did. -/
def weighMoreUptoRow : OpenClaim := { program := "ytbgnabofcceajaa", sum := "848fe6a8c569d546ff15290d2890c81370220afe0b5da798a4bc7229808a1b84", func := "toller/tollerlaw11.WeighMore", spec := "weighMore", unfollowed := true, recurses := true, plainKeys := false, apart := false, narrowed := true }
def WeighMoreUptoSaid : Prop := weighMoreUptoRow.holds Try.pinned (OpenSpec.upto weighMoreSpec)

/-- 'tollerlaw11.WeighWay', WHERE WHAT IT READS IS OF BULK AT MOST 1048576: true; the input reads as it did. -/
def weighWayUptoRow : OpenClaim := { program := "ytbgnabofcceajaa", sum := "848fe6a8c569d546ff15290d2890c81370220afe0b5da798a4bc7229808a1b84", func := "toller/tollerlaw11.WeighWay", spec := "weighWay", unfollowed := true, recurses := true, plainKeys := false, apart := false, narrowed := true }
def WeighWayUptoSaid : Prop := weighWayUptoRow.holds Try.pinned (OpenSpec.upto weighWaySpec)

/-- 'tollerlaw11.WeighTies', WHERE WHAT IT READS IS OF BULK AT MOST 1048576: true; the input reads as it did. -/
def weighTiesUptoRow : OpenClaim := { program := "ytbgnabofcceajaa", sum := "848fe6a8c569d546ff15290d2890c81370220afe0b5da798a4bc7229808a1b84", func := "toller/tollerlaw11.WeighTies", spec := "weighTies", unfollowed := true, recurses := true, plainKeys := false, apart := false, narrowed := true }
def WeighTiesUptoSaid : Prop := weighTiesUptoRow.holds Try.pinned (OpenSpec.upto weighTiesSpec)

end Rows
end Go.Proofs.Ytbgnabofcceajaa
