/-
  No cell of these rows narrows 'for every input' (looked for: loops, veiled, ifaces, maps, wideKeys, modest, calm, conditions, laid).
  DERIVED. THE GIVEN ROWS OF THIS SEAT. 12 by the template 'for every input the law returns true; each argument reads behind the call as it read before'; 0 by the template 'total and deterministic' (their statements: YtkgnmkklldpbgaaTotals.lean).
  GIVEN WITH THE SEED: the statements are not yours to turn. If you find one false, say at which input.
  Laid BY PROGRAM, IN A SANDBOX (cutbox-rows.mjs): the forced cells as the released guide's own fill.sh prints them over the translation 049890a14264bc64… (all of the seat's roots in one cut). By AI agents, Wed Nov 11 2026. No macro, syntax, notation, axiom, sorry.
-/
import Derived.Test.YtkgnmkklldpbgaaChecked
import GoSem.Claim
import GoSem.ClaimJoined
import GoSem.ClaimMapViews
import Derived.JoinedTies
import Derived.KernelRfl
namespace Go.Proofs.Ytkgnmkklldpbgaa
/- THE CELL 'sum', in the pinned program and in every row, IS THE sha256 OF THE DUMP (.gsa) THAT YtkgnmkklldpbgaaProg.lean LOADS. Nothing in Lean hashes anything: it is a label: what it is worth is what the hold of that sum in a sandbox is worth. -/
noncomputable def Try.pinned : Pinned := { name := "ytkgnmkklldpbgaa", sum := "049890a14264bc64b788e1b4f1b8c5f708b22bee435e3c50c36214316b0bd1cf", checked := Try.checked }
namespace Rows
def none {H : Type} : Left H := { results := [], args := [] }

/-- 'tollerlaw13.TableEpochs': WHATEVER THE INPUT: true; the input reads as it did. -/
def tableEpochsSpec : ChangeSpec := { name := "tableEpochs", fn := fun _ => fun
  | [d1, d2] => { results := [.lit (.bool true)], args := [d1, d2] }
  | _ => none }
def tableEpochsRow : OpenClaim := { program := "ytkgnmkklldpbgaa", sum := "049890a14264bc64b788e1b4f1b8c5f708b22bee435e3c50c36214316b0bd1cf", func := "toller/tollerlaw13.TableEpochs", spec := "tableEpochs", plainKeys := false, apart := false }
def TableEpochsSaid : Prop := tableEpochsRow.holds Try.pinned (OpenSpec.ofChange tableEpochsSpec)

/-- ITS FALSE NEIGHBOUR: 'it returns false'. Refute it at one input. -/
def tableEpochsWrong : ChangeSpec := { name := "tableEpochs", fn := fun _ => fun
  | [d1, d2] => { results := [.lit (.bool false)], args := [d1, d2] }
  | _ => none }
def TableEpochsWrongFalsely : Prop := tableEpochsRow.holds Try.pinned (OpenSpec.ofChange tableEpochsWrong)

/-- 'tollerlaw13.TableOrder': WHATEVER THE INPUT: true; the input reads as it did. -/
def tableOrderSpec : ChangeSpec := { name := "tableOrder", fn := fun _ => fun
  | [d1, d2, d3, d4] => { results := [.lit (.bool true)], args := [d1, d2, d3, d4] }
  | _ => none }
def tableOrderRow : OpenClaim := { program := "ytkgnmkklldpbgaa", sum := "049890a14264bc64b788e1b4f1b8c5f708b22bee435e3c50c36214316b0bd1cf", func := "toller/tollerlaw13.TableOrder", spec := "tableOrder", plainKeys := false, apart := false }
def TableOrderSaid : Prop := tableOrderRow.holds Try.pinned (OpenSpec.ofChange tableOrderSpec)

/-- ITS FALSE NEIGHBOUR: 'it returns false'. Refute it at one input. -/
def tableOrderWrong : ChangeSpec := { name := "tableOrder", fn := fun _ => fun
  | [d1, d2, d3, d4] => { results := [.lit (.bool false)], args := [d1, d2, d3, d4] }
  | _ => none }
def TableOrderWrongFalsely : Prop := tableOrderRow.holds Try.pinned (OpenSpec.ofChange tableOrderWrong)

/-- 'tollerlaw13.TableNone': WHATEVER THE INPUT: true; the input reads as it did. -/
def tableNoneSpec : ChangeSpec := { name := "tableNone", fn := fun _ => fun
  | [d1, d2, d3, d4] => { results := [.lit (.bool true)], args := [d1, d2, d3, d4] }
  | _ => none }
def tableNoneRow : OpenClaim := { program := "ytkgnmkklldpbgaa", sum := "049890a14264bc64b788e1b4f1b8c5f708b22bee435e3c50c36214316b0bd1cf", func := "toller/tollerlaw13.TableNone", spec := "tableNone", plainKeys := false, apart := false }
def TableNoneSaid : Prop := tableNoneRow.holds Try.pinned (OpenSpec.ofChange tableNoneSpec)

/-- ITS FALSE NEIGHBOUR: 'it returns false'. Refute it at one input. -/
def tableNoneWrong : ChangeSpec := { name := "tableNone", fn := fun _ => fun
  | [d1, d2, d3, d4] => { results := [.lit (.bool false)], args := [d1, d2, d3, d4] }
  | _ => none }
def TableNoneWrongFalsely : Prop := tableNoneRow.holds Try.pinned (OpenSpec.ofChange tableNoneWrong)

/-- 'tollerlaw13.TableDoes': WHATEVER THE INPUT: true; the input reads as it did. -/
def tableDoesSpec : ChangeSpec := { name := "tableDoes", fn := fun _ => fun
  | [d1, d2, d3] => { results := [.lit (.bool true)], args := [d1, d2, d3] }
  | _ => none }
def tableDoesRow : OpenClaim := { program := "ytkgnmkklldpbgaa", sum := "049890a14264bc64b788e1b4f1b8c5f708b22bee435e3c50c36214316b0bd1cf", func := "toller/tollerlaw13.TableDoes", spec := "tableDoes", plainKeys := false, apart := false }
def TableDoesSaid : Prop := tableDoesRow.holds Try.pinned (OpenSpec.ofChange tableDoesSpec)

/-- ITS FALSE NEIGHBOUR: 'it returns false'. Refute it at one input. -/
def tableDoesWrong : ChangeSpec := { name := "tableDoes", fn := fun _ => fun
  | [d1, d2, d3] => { results := [.lit (.bool false)], args := [d1, d2, d3] }
  | _ => none }
def TableDoesWrongFalsely : Prop := tableDoesRow.holds Try.pinned (OpenSpec.ofChange tableDoesWrong)

/-- 'tollerlaw13.TableOnce': WHATEVER THE INPUT: true; the input reads as it did. -/
def tableOnceSpec : ChangeSpec := { name := "tableOnce", fn := fun _ => fun
  | [d1, d2, d3] => { results := [.lit (.bool true)], args := [d1, d2, d3] }
  | _ => none }
def tableOnceRow : OpenClaim := { program := "ytkgnmkklldpbgaa", sum := "049890a14264bc64b788e1b4f1b8c5f708b22bee435e3c50c36214316b0bd1cf", func := "toller/tollerlaw13.TableOnce", spec := "tableOnce", plainKeys := false, apart := false }
def TableOnceSaid : Prop := tableOnceRow.holds Try.pinned (OpenSpec.ofChange tableOnceSpec)

/-- ITS FALSE NEIGHBOUR: 'it returns false'. Refute it at one input. -/
def tableOnceWrong : ChangeSpec := { name := "tableOnce", fn := fun _ => fun
  | [d1, d2, d3] => { results := [.lit (.bool false)], args := [d1, d2, d3] }
  | _ => none }
def TableOnceWrongFalsely : Prop := tableOnceRow.holds Try.pinned (OpenSpec.ofChange tableOnceWrong)

/-- 'tollerlaw13.TableApart': WHATEVER THE INPUT: true; the input reads as it did. -/
def tableApartSpec : ChangeSpec := { name := "tableApart", fn := fun _ => fun
  | [d1, d2, d3] => { results := [.lit (.bool true)], args := [d1, d2, d3] }
  | _ => none }
def tableApartRow : OpenClaim := { program := "ytkgnmkklldpbgaa", sum := "049890a14264bc64b788e1b4f1b8c5f708b22bee435e3c50c36214316b0bd1cf", func := "toller/tollerlaw13.TableApart", spec := "tableApart", plainKeys := false, apart := false }
def TableApartSaid : Prop := tableApartRow.holds Try.pinned (OpenSpec.ofChange tableApartSpec)

/-- ITS FALSE NEIGHBOUR: 'it returns false'. Refute it at one input. -/
def tableApartWrong : ChangeSpec := { name := "tableApart", fn := fun _ => fun
  | [d1, d2, d3] => { results := [.lit (.bool false)], args := [d1, d2, d3] }
  | _ => none }
def TableApartWrongFalsely : Prop := tableApartRow.holds Try.pinned (OpenSpec.ofChange tableApartWrong)

/-- 'tollerlaw13.TableForgets': WHATEVER THE INPUT: true; the input reads as it did. -/
def tableForgetsSpec : ChangeSpec := { name := "tableForgets", fn := fun _ => fun
  | [d1, d2, d3, d4] => { results := [.lit (.bool true)], args := [d1, d2, d3, d4] }
  | _ => none }
def tableForgetsRow : OpenClaim := { program := "ytkgnmkklldpbgaa", sum := "049890a14264bc64b788e1b4f1b8c5f708b22bee435e3c50c36214316b0bd1cf", func := "toller/tollerlaw13.TableForgets", spec := "tableForgets", plainKeys := false, apart := false }
def TableForgetsSaid : Prop := tableForgetsRow.holds Try.pinned (OpenSpec.ofChange tableForgetsSpec)

/-- ITS FALSE NEIGHBOUR: 'it returns false'. Refute it at one input. -/
def tableForgetsWrong : ChangeSpec := { name := "tableForgets", fn := fun _ => fun
  | [d1, d2, d3, d4] => { results := [.lit (.bool false)], args := [d1, d2, d3, d4] }
  | _ => none }
def TableForgetsWrongFalsely : Prop := tableForgetsRow.holds Try.pinned (OpenSpec.ofChange tableForgetsWrong)

/-- 'tollerlaw12.PruneIs': WHATEVER THE INPUT: true; the input reads as it did. -/
def pruneIsSpec : ChangeSpec := { name := "pruneIs", fn := fun _ => fun
  | [d1, d2, d3] => { results := [.lit (.bool true)], args := [d1, d2, d3] }
  | _ => none }
def pruneIsRow : OpenClaim := { program := "ytkgnmkklldpbgaa", sum := "049890a14264bc64b788e1b4f1b8c5f708b22bee435e3c50c36214316b0bd1cf", func := "toller/tollerlaw12.PruneIs", spec := "pruneIs", unfollowed := true, recurses := true, plainKeys := false, apart := false }
def PruneIsSaid : Prop := pruneIsRow.holds Try.pinned (OpenSpec.ofChange pruneIsSpec)

/-- ITS FALSE NEIGHBOUR: 'it returns false'. Refute it at one input. -/
def pruneIsWrong : ChangeSpec := { name := "pruneIs", fn := fun _ => fun
  | [d1, d2, d3] => { results := [.lit (.bool false)], args := [d1, d2, d3] }
  | _ => none }
def PruneIsWrongFalsely : Prop := pruneIsRow.holds Try.pinned (OpenSpec.ofChange pruneIsWrong)

/-- 'tollerlaw12.PruneFirst': WHATEVER THE INPUT: true; the input reads as it did. -/
def pruneFirstSpec : ChangeSpec := { name := "pruneFirst", fn := fun _ => fun
  | [d] => { results := [.lit (.bool true)], args := [d] }
  | _ => none }
def pruneFirstRow : OpenClaim := { program := "ytkgnmkklldpbgaa", sum := "049890a14264bc64b788e1b4f1b8c5f708b22bee435e3c50c36214316b0bd1cf", func := "toller/tollerlaw12.PruneFirst", spec := "pruneFirst", unfollowed := true, recurses := true, plainKeys := false, apart := false }
def PruneFirstSaid : Prop := pruneFirstRow.holds Try.pinned (OpenSpec.ofChange pruneFirstSpec)

/-- ITS FALSE NEIGHBOUR: 'it returns false'. Refute it at one input. -/
def pruneFirstWrong : ChangeSpec := { name := "pruneFirst", fn := fun _ => fun
  | [d] => { results := [.lit (.bool false)], args := [d] }
  | _ => none }
def PruneFirstWrongFalsely : Prop := pruneFirstRow.holds Try.pinned (OpenSpec.ofChange pruneFirstWrong)

/-- 'tollerlaw12.PruneLeaves': WHATEVER THE INPUT: true; the input reads as it did. -/
def pruneLeavesSpec : ChangeSpec := { name := "pruneLeaves", fn := fun _ => fun
  | [d] => { results := [.lit (.bool true)], args := [d] }
  | _ => none }
def pruneLeavesRow : OpenClaim := { program := "ytkgnmkklldpbgaa", sum := "049890a14264bc64b788e1b4f1b8c5f708b22bee435e3c50c36214316b0bd1cf", func := "toller/tollerlaw12.PruneLeaves", spec := "pruneLeaves", unfollowed := true, recurses := true, plainKeys := false, apart := false }
def PruneLeavesSaid : Prop := pruneLeavesRow.holds Try.pinned (OpenSpec.ofChange pruneLeavesSpec)

/-- ITS FALSE NEIGHBOUR: 'it returns false'. Refute it at one input. -/
def pruneLeavesWrong : ChangeSpec := { name := "pruneLeaves", fn := fun _ => fun
  | [d] => { results := [.lit (.bool false)], args := [d] }
  | _ => none }
def PruneLeavesWrongFalsely : Prop := pruneLeavesRow.holds Try.pinned (OpenSpec.ofChange pruneLeavesWrong)

/-- 'tollerlaw12.PruneTwice': WHATEVER THE INPUT: true; the input reads as it did. -/
def pruneTwiceSpec : ChangeSpec := { name := "pruneTwice", fn := fun _ => fun
  | [d1, d2, d3] => { results := [.lit (.bool true)], args := [d1, d2, d3] }
  | _ => none }
def pruneTwiceRow : OpenClaim := { program := "ytkgnmkklldpbgaa", sum := "049890a14264bc64b788e1b4f1b8c5f708b22bee435e3c50c36214316b0bd1cf", func := "toller/tollerlaw12.PruneTwice", spec := "pruneTwice", unfollowed := true, recurses := true, plainKeys := false, apart := false }
def PruneTwiceSaid : Prop := pruneTwiceRow.holds Try.pinned (OpenSpec.ofChange pruneTwiceSpec)

/-- ITS FALSE NEIGHBOUR: 'it returns false'. Refute it at one input. -/
def pruneTwiceWrong : ChangeSpec := { name := "pruneTwice", fn := fun _ => fun
  | [d1, d2, d3] => { results := [.lit (.bool false)], args := [d1, d2, d3] }
  | _ => none }
def PruneTwiceWrongFalsely : Prop := pruneTwiceRow.holds Try.pinned (OpenSpec.ofChange pruneTwiceWrong)

/-- 'tollerlaw12.PruneKeeps': WHATEVER THE INPUT: true; the input reads as it did. -/
def pruneKeepsSpec : ChangeSpec := { name := "pruneKeeps", fn := fun _ => fun
  | [d1, d2] => { results := [.lit (.bool true)], args := [d1, d2] }
  | _ => none }
def pruneKeepsRow : OpenClaim := { program := "ytkgnmkklldpbgaa", sum := "049890a14264bc64b788e1b4f1b8c5f708b22bee435e3c50c36214316b0bd1cf", func := "toller/tollerlaw12.PruneKeeps", spec := "pruneKeeps", unfollowed := true, recurses := true, plainKeys := false, apart := false }
def PruneKeepsSaid : Prop := pruneKeepsRow.holds Try.pinned (OpenSpec.ofChange pruneKeepsSpec)

/-- ITS FALSE NEIGHBOUR: 'it returns false'. Refute it at one input. -/
def pruneKeepsWrong : ChangeSpec := { name := "pruneKeeps", fn := fun _ => fun
  | [d1, d2] => { results := [.lit (.bool false)], args := [d1, d2] }
  | _ => none }
def PruneKeepsWrongFalsely : Prop := pruneKeepsRow.holds Try.pinned (OpenSpec.ofChange pruneKeepsWrong)

/- THE SECOND FORM. 'bulk': how many values and letters a reading holds, each counted each time it is reached (what is shared counts as often as it is met; a slice's spare places count too). A statement '..UptoSaid' is the law's where the arguments, and the package variables that the reading takes, are together of bulk at most 1048576: NARROWER than '..Said'. Prove '..Said' where nothing that the law and all that it calls make is longer than what came in: it says more and counts as full. Else prove '..UptoSaid'. A law counts once. -/
mutual
def uptoBulk {H : Type} : DataW H → Nat
  | .lit (.string bytes) => bytes.length + 1
  | .lit _ => 1
  | .nil => 1
  | .ptr d => uptoBulk d + 1
  | .slice elems spare => uptoBulkAll elems + uptoBulkAll spare + 1
  | .agg parts => uptoBulkAll parts + 1
  | .iface _ d => uptoBulk d + 1
  | .map entries => uptoBulkEntries entries + 1
  | .held _ => 1
def uptoBulkAll {H : Type} : List (DataW H) → Nat
  | [] => 0
  | d :: r => uptoBulk d + uptoBulkAll r
def uptoBulkEntries {H : Type} : List (Lit × DataW H) → Nat
  | [] => 0
  | x :: r => uptoBulkEntry x + uptoBulkEntries r
def uptoBulkEntry {H : Type} : Lit × DataW H → Nat
  | (.string bytes, d) => bytes.length + uptoBulk d + 1
  | (_, d) => uptoBulk d + 1
 end
def uptoSmall : (H : Type) → List (DataW H) → Bool := fun _ ds => decide (uptoBulkAll ds ≤ 1048576)
def OpenSpec.upto (s : _root_.Go.ChangeSpec) : _root_.Go.OpenSpec := { _root_.Go.OpenSpec.ofChange s with cond := some uptoSmall }

/-- 'tollerlaw13.TableEpochs', WHERE WHAT IT READS IS OF BULK AT MOST 1048576: true; the input reads as it did. -/
def tableEpochsUptoRow : OpenClaim := { program := "ytkgnmkklldpbgaa", sum := "049890a14264bc64b788e1b4f1b8c5f708b22bee435e3c50c36214316b0bd1cf", func := "toller/tollerlaw13.TableEpochs", spec := "tableEpochs", plainKeys := false, apart := false, narrowed := true }
def TableEpochsUptoSaid : Prop := tableEpochsUptoRow.holds Try.pinned (OpenSpec.upto tableEpochsSpec)

/-- 'tollerlaw13.TableOrder', WHERE WHAT IT READS IS OF BULK AT MOST 1048576: true; the input reads as it did. -/
def tableOrderUptoRow : OpenClaim := { program := "ytkgnmkklldpbgaa", sum := "049890a14264bc64b788e1b4f1b8c5f708b22bee435e3c50c36214316b0bd1cf", func := "toller/tollerlaw13.TableOrder", spec := "tableOrder", plainKeys := false, apart := false, narrowed := true }
def TableOrderUptoSaid : Prop := tableOrderUptoRow.holds Try.pinned (OpenSpec.upto tableOrderSpec)

/-- 'tollerlaw13.TableNone', WHERE WHAT IT READS IS OF BULK AT MOST 1048576: true; the input reads as it did. -/
def tableNoneUptoRow : OpenClaim := { program := "ytkgnmkklldpbgaa", sum := "049890a14264bc64b788e1b4f1b8c5f708b22bee435e3c50c36214316b0bd1cf", func := "toller/tollerlaw13.TableNone", spec := "tableNone", plainKeys := false, apart := false, narrowed := true }
def TableNoneUptoSaid : Prop := tableNoneUptoRow.holds Try.pinned (OpenSpec.upto tableNoneSpec)

/-- 'tollerlaw13.TableDoes', WHERE WHAT IT READS IS OF BULK AT MOST 1048576: true; the input reads as it did. -/
def tableDoesUptoRow : OpenClaim := { program := "ytkgnmkklldpbgaa", sum := "049890a14264bc64b788e1b4f1b8c5f708b22bee435e3c50c36214316b0bd1cf", func := "toller/tollerlaw13.TableDoes", spec := "tableDoes", plainKeys := false, apart := false, narrowed := true }
def TableDoesUptoSaid : Prop := tableDoesUptoRow.holds Try.pinned (OpenSpec.upto tableDoesSpec)

/-- 'tollerlaw13.TableOnce', WHERE WHAT IT READS IS OF BULK AT MOST 1048576: true; the input reads as it did. -/
def tableOnceUptoRow : OpenClaim := { program := "ytkgnmkklldpbgaa", sum := "049890a14264bc64b788e1b4f1b8c5f708b22bee435e3c50c36214316b0bd1cf", func := "toller/tollerlaw13.TableOnce", spec := "tableOnce", plainKeys := false, apart := false, narrowed := true }
def TableOnceUptoSaid : Prop := tableOnceUptoRow.holds Try.pinned (OpenSpec.upto tableOnceSpec)

/-- 'tollerlaw13.TableApart', WHERE WHAT IT READS IS OF BULK AT MOST 1048576: true; the input reads as it did. -/
def tableApartUptoRow : OpenClaim := { program := "ytkgnmkklldpbgaa", sum := "049890a14264bc64b788e1b4f1b8c5f708b22bee435e3c50c36214316b0bd1cf", func := "toller/tollerlaw13.TableApart", spec := "tableApart", plainKeys := false, apart := false, narrowed := true }
def TableApartUptoSaid : Prop := tableApartUptoRow.holds Try.pinned (OpenSpec.upto tableApartSpec)

/-- 'tollerlaw13.TableForgets', WHERE WHAT IT READS IS OF BULK AT MOST 1048576: true; the input reads as it did. -/
def tableForgetsUptoRow : OpenClaim := { program := "ytkgnmkklldpbgaa", sum := "049890a14264bc64b788e1b4f1b8c5f708b22bee435e3c50c36214316b0bd1cf", func := "toller/tollerlaw13.TableForgets", spec := "tableForgets", plainKeys := false, apart := false, narrowed := true }
def TableForgetsUptoSaid : Prop := tableForgetsUptoRow.holds Try.pinned (OpenSpec.upto tableForgetsSpec)

/-- 'tollerlaw12.PruneIs', WHERE WHAT IT READS IS OF BULK AT MOST 1048576: true; the input reads as it did. -/
def pruneIsUptoRow : OpenClaim := { program := "ytkgnmkklldpbgaa", sum := "049890a14264bc64b788e1b4f1b8c5f708b22bee435e3c50c36214316b0bd1cf", func := "toller/tollerlaw12.PruneIs", spec := "pruneIs", unfollowed := true, recurses := true, plainKeys := false, apart := false, narrowed := true }
def PruneIsUptoSaid : Prop := pruneIsUptoRow.holds Try.pinned (OpenSpec.upto pruneIsSpec)

/-- 'tollerlaw12.PruneFirst', WHERE WHAT IT READS IS OF BULK AT MOST 1048576: true; the input reads as it did. -/
def pruneFirstUptoRow : OpenClaim := { program := "ytkgnmkklldpbgaa", sum := "049890a14264bc64b788e1b4f1b8c5f708b22bee435e3c50c36214316b0bd1cf", func := "toller/tollerlaw12.PruneFirst", spec := "pruneFirst", unfollowed := true, recurses := true, plainKeys := false, apart := false, narrowed := true }
def PruneFirstUptoSaid : Prop := pruneFirstUptoRow.holds Try.pinned (OpenSpec.upto pruneFirstSpec)

/-- 'tollerlaw12.PruneLeaves', WHERE WHAT IT READS IS OF BULK AT MOST 1048576: true; the input reads as it did. -/
def pruneLeavesUptoRow : OpenClaim := { program := "ytkgnmkklldpbgaa", sum := "049890a14264bc64b788e1b4f1b8c5f708b22bee435e3c50c36214316b0bd1cf", func := "toller/tollerlaw12.PruneLeaves", spec := "pruneLeaves", unfollowed := true, recurses := true, plainKeys := false, apart := false, narrowed := true }
def PruneLeavesUptoSaid : Prop := pruneLeavesUptoRow.holds Try.pinned (OpenSpec.upto pruneLeavesSpec)

/-- 'tollerlaw12.PruneTwice', WHERE WHAT IT READS IS OF BULK AT MOST 1048576: true; the input reads as it did. -/
def pruneTwiceUptoRow : OpenClaim := { program := "ytkgnmkklldpbgaa", sum := "049890a14264bc64b788e1b4f1b8c5f708b22bee435e3c50c36214316b0bd1cf", func := "toller/tollerlaw12.PruneTwice", spec := "pruneTwice", unfollowed := true, recurses := true, plainKeys := false, apart := false, narrowed := true }
def PruneTwiceUptoSaid : Prop := pruneTwiceUptoRow.holds Try.pinned (OpenSpec.upto pruneTwiceSpec)

/-- 'tollerlaw12.PruneKeeps', WHERE WHAT IT READS IS OF BULK AT MOST 1048576: true; the input reads as it did. -/
def pruneKeepsUptoRow : OpenClaim := { program := "ytkgnmkklldpbgaa", sum := "049890a14264bc64b788e1b4f1b8c5f708b22bee435e3c50c36214316b0bd1cf", func := "toller/tollerlaw12.PruneKeeps", spec := "pruneKeeps", unfollowed := true, recurses := true, plainKeys := false, apart := false, narrowed := true }
def PruneKeepsUptoSaid : Prop := pruneKeepsUptoRow.holds Try.pinned (OpenSpec.upto pruneKeepsSpec)

end Rows
end Go.Proofs.Ytkgnmkklldpbgaa
