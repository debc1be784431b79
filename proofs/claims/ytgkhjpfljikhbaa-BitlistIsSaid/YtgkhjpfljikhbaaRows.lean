/-
  No cell of these rows narrows 'for every input' (looked for: loops, veiled, ifaces, maps, wideKeys, modest, calm, conditions, laid).
  DERIVED. THE GIVEN ROWS OF THIS SEAT. 10 by the template 'for every input the law returns true; each argument reads behind the call as it read before'; 0 by the template 'total and deterministic' (their statements: YtgkhjpfljikhbaaTotals.lean).
  GIVEN WITH THE SEED: the statements are not yours to turn. If you find one false, say at which input.
  Laid BY PROGRAM, IN A SANDBOX (cutbox-rows.mjs): the forced cells as the released guide's own fill.sh prints them over the translation e07abeb9b70ea200… (all of the seat's roots in one cut). By AI agents, Wed Nov 11 2026. No macro, syntax, notation, axiom, sorry.
-/
import Derived.Test.YtgkhjpfljikhbaaChecked
import GoSem.Claim
import GoSem.ClaimJoined
import GoSem.ClaimMapViews
import Derived.JoinedTies
import Derived.KernelRfl
namespace Go.Proofs.Ytgkhjpfljikhbaa
/- THE CELL 'sum', in the pinned program and in every row, IS THE sha256 OF THE DUMP (.gsa) THAT YtgkhjpfljikhbaaProg.lean LOADS. Nothing in Lean hashes anything: it is a label: what it is worth is what the hold of that sum in a sandbox is worth. -/
noncomputable def Try.pinned : Pinned := { name := "ytgkhjpfljikhbaa", sum := "e07abeb9b70ea200fbf38bafecf5083c1627c33769f7849c199b85a02dbb86f8", checked := Try.checked }
namespace Rows
def none {H : Type} : Left H := { results := [], args := [] }

/-- 'tollerlaw02.BitlistBack': WHATEVER THE INPUT: true; the input reads as it did. -/
def bitlistBackSpec : ChangeSpec := { name := "bitlistBack", fn := fun _ => fun
  | [d1, d2] => { results := [.lit (.bool true)], args := [d1, d2] }
  | _ => none }
def bitlistBackRow : OpenClaim := { program := "ytgkhjpfljikhbaa", sum := "e07abeb9b70ea200fbf38bafecf5083c1627c33769f7849c199b85a02dbb86f8", func := "toller/tollerlaw02.BitlistBack", spec := "bitlistBack", apart := false }
def BitlistBackSaid : Prop := bitlistBackRow.holds Try.pinned (OpenSpec.ofChange bitlistBackSpec)

/-- ITS FALSE NEIGHBOUR: 'it returns false'. Refute it at one input. -/
def bitlistBackWrong : ChangeSpec := { name := "bitlistBack", fn := fun _ => fun
  | [d1, d2] => { results := [.lit (.bool false)], args := [d1, d2] }
  | _ => none }
def BitlistBackWrongFalsely : Prop := bitlistBackRow.holds Try.pinned (OpenSpec.ofChange bitlistBackWrong)

/-- 'tollerlaw02.BitlistTurned': WHATEVER THE INPUT: true; the input reads as it did. -/
def bitlistTurnedSpec : ChangeSpec := { name := "bitlistTurned", fn := fun _ => fun
  | [d1, d2, d3] => { results := [.lit (.bool true)], args := [d1, d2, d3] }
  | _ => none }
def bitlistTurnedRow : OpenClaim := { program := "ytgkhjpfljikhbaa", sum := "e07abeb9b70ea200fbf38bafecf5083c1627c33769f7849c199b85a02dbb86f8", func := "toller/tollerlaw02.BitlistTurned", spec := "bitlistTurned", apart := false }
def BitlistTurnedSaid : Prop := bitlistTurnedRow.holds Try.pinned (OpenSpec.ofChange bitlistTurnedSpec)

/-- ITS FALSE NEIGHBOUR: 'it returns false'. Refute it at one input. -/
def bitlistTurnedWrong : ChangeSpec := { name := "bitlistTurned", fn := fun _ => fun
  | [d1, d2, d3] => { results := [.lit (.bool false)], args := [d1, d2, d3] }
  | _ => none }
def BitlistTurnedWrongFalsely : Prop := bitlistTurnedRow.holds Try.pinned (OpenSpec.ofChange bitlistTurnedWrong)

/-- 'tollerlaw01.LePuts': WHATEVER THE INPUT: true; the input reads as it did. -/
def lePutsSpec : ChangeSpec := { name := "lePuts", fn := fun _ => fun
  | [d1, d2, d3] => { results := [.lit (.bool true)], args := [d1, d2, d3] }
  | _ => none }
def lePutsRow : OpenClaim := { program := "ytgkhjpfljikhbaa", sum := "e07abeb9b70ea200fbf38bafecf5083c1627c33769f7849c199b85a02dbb86f8", func := "toller/tollerlaw01.LePuts", spec := "lePuts", recurses := true, apart := false }
def LePutsSaid : Prop := lePutsRow.holds Try.pinned (OpenSpec.ofChange lePutsSpec)

/-- ITS FALSE NEIGHBOUR: 'it returns false'. Refute it at one input. -/
def lePutsWrong : ChangeSpec := { name := "lePuts", fn := fun _ => fun
  | [d1, d2, d3] => { results := [.lit (.bool false)], args := [d1, d2, d3] }
  | _ => none }
def LePutsWrongFalsely : Prop := lePutsRow.holds Try.pinned (OpenSpec.ofChange lePutsWrong)

/-- 'tollerlaw01.LeBack': WHATEVER THE INPUT: true; the input reads as it did. -/
def leBackSpec : ChangeSpec := { name := "leBack", fn := fun _ => fun
  | [d1, d2] => { results := [.lit (.bool true)], args := [d1, d2] }
  | _ => none }
def leBackRow : OpenClaim := { program := "ytgkhjpfljikhbaa", sum := "e07abeb9b70ea200fbf38bafecf5083c1627c33769f7849c199b85a02dbb86f8", func := "toller/tollerlaw01.LeBack", spec := "leBack", apart := false }
def LeBackSaid : Prop := leBackRow.holds Try.pinned (OpenSpec.ofChange leBackSpec)

/-- ITS FALSE NEIGHBOUR: 'it returns false'. Refute it at one input. -/
def leBackWrong : ChangeSpec := { name := "leBack", fn := fun _ => fun
  | [d1, d2] => { results := [.lit (.bool false)], args := [d1, d2] }
  | _ => none }
def LeBackWrongFalsely : Prop := leBackRow.holds Try.pinned (OpenSpec.ofChange leBackWrong)

/-- 'tollerlaw01.LeWidths': WHATEVER THE INPUT: true; the input reads as it did. -/
def leWidthsSpec : ChangeSpec := { name := "leWidths", fn := fun _ => fun
  | [d1, d2, d3] => { results := [.lit (.bool true)], args := [d1, d2, d3] }
  | _ => none }
def leWidthsRow : OpenClaim := { program := "ytgkhjpfljikhbaa", sum := "e07abeb9b70ea200fbf38bafecf5083c1627c33769f7849c199b85a02dbb86f8", func := "toller/tollerlaw01.LeWidths", spec := "leWidths", apart := false }
def LeWidthsSaid : Prop := leWidthsRow.holds Try.pinned (OpenSpec.ofChange leWidthsSpec)

/-- ITS FALSE NEIGHBOUR: 'it returns false'. Refute it at one input. -/
def leWidthsWrong : ChangeSpec := { name := "leWidths", fn := fun _ => fun
  | [d1, d2, d3] => { results := [.lit (.bool false)], args := [d1, d2, d3] }
  | _ => none }
def LeWidthsWrongFalsely : Prop := leWidthsRow.holds Try.pinned (OpenSpec.ofChange leWidthsWrong)

/-- 'tollerlaw01.LeReads': WHATEVER THE INPUT: true; the input reads as it did. -/
def leReadsSpec : ChangeSpec := { name := "leReads", fn := fun _ => fun
  | [d1, d2] => { results := [.lit (.bool true)], args := [d1, d2] }
  | _ => none }
def leReadsRow : OpenClaim := { program := "ytgkhjpfljikhbaa", sum := "e07abeb9b70ea200fbf38bafecf5083c1627c33769f7849c199b85a02dbb86f8", func := "toller/tollerlaw01.LeReads", spec := "leReads", apart := false }
def LeReadsSaid : Prop := leReadsRow.holds Try.pinned (OpenSpec.ofChange leReadsSpec)

/-- ITS FALSE NEIGHBOUR: 'it returns false'. Refute it at one input. -/
def leReadsWrong : ChangeSpec := { name := "leReads", fn := fun _ => fun
  | [d1, d2] => { results := [.lit (.bool false)], args := [d1, d2] }
  | _ => none }
def LeReadsWrongFalsely : Prop := leReadsRow.holds Try.pinned (OpenSpec.ofChange leReadsWrong)

/-- 'tollerlaw01.LeJoins': WHATEVER THE INPUT: true; the input reads as it did. -/
def leJoinsSpec : ChangeSpec := { name := "leJoins", fn := fun _ => fun
  | [d1, d2, d3] => { results := [.lit (.bool true)], args := [d1, d2, d3] }
  | _ => none }
def leJoinsRow : OpenClaim := { program := "ytgkhjpfljikhbaa", sum := "e07abeb9b70ea200fbf38bafecf5083c1627c33769f7849c199b85a02dbb86f8", func := "toller/tollerlaw01.LeJoins", spec := "leJoins", apart := false }
def LeJoinsSaid : Prop := leJoinsRow.holds Try.pinned (OpenSpec.ofChange leJoinsSpec)

/-- ITS FALSE NEIGHBOUR: 'it returns false'. Refute it at one input. -/
def leJoinsWrong : ChangeSpec := { name := "leJoins", fn := fun _ => fun
  | [d1, d2, d3] => { results := [.lit (.bool false)], args := [d1, d2, d3] }
  | _ => none }
def LeJoinsWrongFalsely : Prop := leJoinsRow.holds Try.pinned (OpenSpec.ofChange leJoinsWrong)

/-- 'tollerlaw02.BitlistIs': WHATEVER THE INPUT: true; the input reads as it did. -/
def bitlistIsSpec : ChangeSpec := { name := "bitlistIs", fn := fun _ => fun
  | [d1, d2, d3, d4] => { results := [.lit (.bool true)], args := [d1, d2, d3, d4] }
  | _ => none }
def bitlistIsRow : OpenClaim := { program := "ytgkhjpfljikhbaa", sum := "e07abeb9b70ea200fbf38bafecf5083c1627c33769f7849c199b85a02dbb86f8", func := "toller/tollerlaw02.BitlistIs", spec := "bitlistIs", apart := false }
def BitlistIsSaid : Prop := bitlistIsRow.holds Try.pinned (OpenSpec.ofChange bitlistIsSpec)

/-- ITS FALSE NEIGHBOUR: 'it returns false'. Refute it at one input. -/
def bitlistIsWrong : ChangeSpec := { name := "bitlistIs", fn := fun _ => fun
  | [d1, d2, d3, d4] => { results := [.lit (.bool false)], args := [d1, d2, d3, d4] }
  | _ => none }
def BitlistIsWrongFalsely : Prop := bitlistIsRow.holds Try.pinned (OpenSpec.ofChange bitlistIsWrong)

/-- 'tollerlaw02.BitlistSizes': WHATEVER THE INPUT: true; the input reads as it did. -/
def bitlistSizesSpec : ChangeSpec := { name := "bitlistSizes", fn := fun _ => fun
  | [d] => { results := [.lit (.bool true)], args := [d] }
  | _ => none }
def bitlistSizesRow : OpenClaim := { program := "ytgkhjpfljikhbaa", sum := "e07abeb9b70ea200fbf38bafecf5083c1627c33769f7849c199b85a02dbb86f8", func := "toller/tollerlaw02.BitlistSizes", spec := "bitlistSizes", apart := false }
def BitlistSizesSaid : Prop := bitlistSizesRow.holds Try.pinned (OpenSpec.ofChange bitlistSizesSpec)

/-- ITS FALSE NEIGHBOUR: 'it returns false'. Refute it at one input. -/
def bitlistSizesWrong : ChangeSpec := { name := "bitlistSizes", fn := fun _ => fun
  | [d] => { results := [.lit (.bool false)], args := [d] }
  | _ => none }
def BitlistSizesWrongFalsely : Prop := bitlistSizesRow.holds Try.pinned (OpenSpec.ofChange bitlistSizesWrong)

/-- 'tollerlaw02.BitlistPlaces': WHATEVER THE INPUT: true; the input reads as it did. -/
def bitlistPlacesSpec : ChangeSpec := { name := "bitlistPlaces", fn := fun _ => fun
  | [d] => { results := [.lit (.bool true)], args := [d] }
  | _ => none }
def bitlistPlacesRow : OpenClaim := { program := "ytgkhjpfljikhbaa", sum := "e07abeb9b70ea200fbf38bafecf5083c1627c33769f7849c199b85a02dbb86f8", func := "toller/tollerlaw02.BitlistPlaces", spec := "bitlistPlaces", apart := false }
def BitlistPlacesSaid : Prop := bitlistPlacesRow.holds Try.pinned (OpenSpec.ofChange bitlistPlacesSpec)

/-- ITS FALSE NEIGHBOUR: 'it returns false'. Refute it at one input. -/
def bitlistPlacesWrong : ChangeSpec := { name := "bitlistPlaces", fn := fun _ => fun
  | [d] => { results := [.lit (.bool false)], args := [d] }
  | _ => none }
def BitlistPlacesWrongFalsely : Prop := bitlistPlacesRow.holds Try.pinned (OpenSpec.ofChange bitlistPlacesWrong)

/- THE SECOND FORM. 'bulk': how many values and letters a reading holds, each counted each time it is reached (what is shared counts as often as it is met; a slice's spare places count too). A statement '..UptoSaid' is the law's where the arguments, and the package variables that the reading takes, are together of bulk at most 1048576: NARROWER than '..Said'. Prove '..Said' where nothing that the law and all that it calls make is longer than what came in: it says more and counts as full. Else prove '..UptoSaid'. A law counts once. -/
mutual
def uptoBulk {H : Type} : DataW H → Nat
  | .lit (.string bytes) => bytes.length + 1
  | .lit _ => 1
  | .nil => 1
  | .ptr d => uptoBulk d + 1
  | .slice elems spare => uptoBulkAll elems + uptoBulkAll spare + 1
  | .agg parts => uptoBulkAll parts + 1
  | .iface _ d => uptoBulk d + 1
  | .map entries => uptoBulkEntries entries + 1
  | .held _ => 1
def uptoBulkAll {H : Type} : List (DataW H) → Nat
  | [] => 0
  | d :: r => uptoBulk d + uptoBulkAll r
def uptoBulkEntries {H : Type} : List (Lit × DataW H) → Nat
  | [] => 0
  | x :: r => uptoBulkEntry x + uptoBulkEntries r
def uptoBulkEntry {H : Type} : Lit × DataW H → Nat
  | (.string bytes, d) => bytes.length + uptoBulk d + 1
  | (_, d) => uptoBulk d + 1
 end
def uptoSmall : (H : Type) → List (DataW H) → Bool := fun _ ds => decide (uptoBulkAll ds ≤ 1048576)
def OpenSpec.upto (s : _root_.Go.ChangeSpec) : _root_.Go.OpenSpec := { _root_.Go.OpenSpec.ofChange s with cond := some uptoSmall }

/-- 'tollerlaw02.BitlistBack', WHERE WHAT IT READS IS OF BULK AT MOST 1048576: true; the input reads as it did. -/
def bitlistBackUptoRow : OpenClaim := { program := "ytgkhjpfljikhbaa", sum := "e07abeb9b70ea200fbf38bafecf5083c1627c33769f7849c199b85a02dbb86f8", func := "toller/tollerlaw02.BitlistBack", spec := "bitlistBack", apart := false, narrowed := true }
def BitlistBackUptoSaid : Prop := bitlistBackUptoRow.holds Try.pinned (OpenSpec.upto bitlistBackSpec)

/-- 'tollerlaw02.BitlistTurned', WHERE WHAT IT READS IS OF BULK AT MOST 1048576: true; the input reads as it did. -/
def bitlistTurnedUptoRow : OpenClaim := { program := "ytgkhjpfljikhbaa", sum := "e07abeb9b70ea200fbf38bafecf5083c1627c33769f7849c199b85a02dbb86f8", func := "toller/tollerlaw02.BitlistTurned", spec := "bitlistTurned", apart := false, narrowed := true }
def BitlistTurnedUptoSaid : Prop := bitlistTurnedUptoRow.holds Try.pinned (OpenSpec.upto bitlistTurnedSpec)

/-- 'tollerlaw01.LePuts', WHERE WHAT IT READS IS OF BULK AT MOST 1048576: true; the input reads as it did. -/
def lePutsUptoRow : OpenClaim := { program := "ytgkhjpfljikhbaa", sum := "e07abeb9b70ea200fbf38bafecf5083c1627c33769f7849c199b85a02dbb86f8", func := "toller/tollerlaw01.LePuts", spec := "lePuts", recurses := true, apart := false, narrowed := true }
def LePutsUptoSaid : Prop := lePutsUptoRow.holds Try.pinned (OpenSpec.upto lePutsSpec)

/-- 'tollerlaw01.LeBack', WHERE WHAT IT READS IS OF BULK AT MOST 1048576: true; the input reads as it did. -/
def leBackUptoRow : OpenClaim := { program := "ytgkhjpfljikhbaa", sum := "e07abeb9b70ea200fbf38bafecf5083c1627c33769f7849c199b85a02dbb86f8", func := "toller/tollerlaw01.LeBack", spec := "leBack", apart := false, narrowed := true }
def LeBackUptoSaid : Prop := leBackUptoRow.holds Try.pinned (OpenSpec.upto leBackSpec)

/-- 'tollerlaw01.LeWidths', WHERE WHAT IT READS IS OF BULK AT MOST 1048576: true; the input reads as it did. -/
def leWidthsUptoRow : OpenClaim := { program := "ytgkhjpfljikhbaa", sum := "e07abeb9b70ea200fbf38bafecf5083c1627c33769f7849c199b85a02dbb86f8", func := "toller/tollerlaw01.LeWidths", spec := "leWidths", apart := false, narrowed := true }
def LeWidthsUptoSaid : Prop := leWidthsUptoRow.holds Try.pinned (OpenSpec.upto leWidthsSpec)

/-- 'tollerlaw01.LeReads', WHERE WHAT IT READS IS OF BULK AT MOST 1048576: true; the input reads as it did. -/
def leReadsUptoRow : OpenClaim := { program := "ytgkhjpfljikhbaa", sum := "e07abeb9b70ea200fbf38bafecf5083c1627c33769f7849c199b85a02dbb86f8", func := "toller/tollerlaw01.LeReads", spec := "leReads", apart := false, narrowed := true }
def LeReadsUptoSaid : Prop := leReadsUptoRow.holds Try.pinned (OpenSpec.upto leReadsSpec)

/-- 'tollerlaw01.LeJoins', WHERE WHAT IT READS IS OF BULK AT MOST 1048576: true; the input reads as it did. -/
def leJoinsUptoRow : OpenClaim := { program := "ytgkhjpfljikhbaa", sum := "e07abeb9b70ea200fbf38bafecf5083c1627c33769f7849c199b85a02dbb86f8", func := "toller/tollerlaw01.LeJoins", spec := "leJoins", apart := false, narrowed := true }
def LeJoinsUptoSaid : Prop := leJoinsUptoRow.holds Try.pinned (OpenSpec.upto leJoinsSpec)

/-- 'tollerlaw02.BitlistIs', WHERE WHAT IT READS IS OF BULK AT MOST 1048576: true; the input reads as it did. -/
def bitlistIsUptoRow : OpenClaim := { program := "ytgkhjpfljikhbaa", sum := "e07abeb9b70ea200fbf38bafecf5083c1627c33769f7849c199b85a02dbb86f8", func := "toller/tollerlaw02.BitlistIs", spec := "bitlistIs", apart := false, narrowed := true }
def BitlistIsUptoSaid : Prop := bitlistIsUptoRow.holds Try.pinned (OpenSpec.upto bitlistIsSpec)

/-- 'tollerlaw02.BitlistSizes', WHERE WHAT IT READS IS OF BULK AT MOST 1048576: true; the input reads as it did. -/
def bitlistSizesUptoRow : OpenClaim := { program := "ytgkhjpfljikhbaa", sum := "e07abeb9b70ea200fbf38bafecf5083c1627c33769f7849c199b85a02dbb86f8", func := "toller/tollerlaw02.BitlistSizes", spec := "bitlistSizes", apart := false, narrowed := true }
def BitlistSizesUptoSaid : Prop := bitlistSizesUptoRow.holds Try.pinned (OpenSpec.upto bitlistSizesSpec)

/-- 'tollerlaw02.BitlistPlaces', WHERE WHAT IT READS IS OF BULK AT MOST 1048576: true; the input reads as it did. -/
def bitlistPlacesUptoRow : OpenClaim := { program := "ytgkhjpfljikhbaa", sum := "e07abeb9b70ea200fbf38bafecf5083c1627c33769f7849c199b85a02dbb86f8", func := "toller/tollerlaw02.BitlistPlaces", spec := "bitlistPlaces", apart := false, narrowed := true }
def BitlistPlacesUptoSaid : Prop := bitlistPlacesUptoRow.holds Try.pinned (OpenSpec.upto bitlistPlacesSpec)

end Rows
end Go.Proofs.Ytgkhjpfljikhbaa
