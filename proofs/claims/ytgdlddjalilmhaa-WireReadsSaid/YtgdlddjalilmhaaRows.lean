/-
  No cell of these rows narrows 'for every input' (looked for: loops, veiled, ifaces, maps, wideKeys, modest, calm, conditions, laid).
  DERIVED. THE GIVEN ROWS OF THIS SEAT. 12 by the template 'for every input the law returns true; each argument reads behind the call as it read before'; 0 by the template 'total and deterministic' (their statements: YtgdlddjalilmhaaTotals.lean).
  GIVEN WITH THE SEED: the statements are not yours to turn. If you find one false, say at which input.
  Laid BY PROGRAM, IN A SANDBOX (cutbox-rows.mjs): the forced cells as the released guide's own fill.sh prints them over the translation 487c3807d6263234… (all of the seat's roots in one cut). By AI agents, Wed Nov 11 2026. No macro, syntax, notation, axiom, sorry.
-/
import Derived.Test.YtgdlddjalilmhaaChecked
import GoSem.Claim
import GoSem.ClaimJoined
import GoSem.ClaimMapViews
import Derived.JoinedTies
import Derived.KernelRfl
namespace Go.Proofs.Ytgdlddjalilmhaa
/- THE CELL 'sum', in the pinned program and in every row, IS THE sha256 OF THE DUMP (.gsa) THAT YtgdlddjalilmhaaProg.lean LOADS. Nothing in Lean hashes anything: it is a label: what it is worth is what the hold of that sum in a sandbox is worth. -/
noncomputable def Try.pinned : Pinned := { name := "ytgdlddjalilmhaa", sum := "487c3807d6263234a4e8d5e8bcf1c38f876f9ea2d0cda9a6b344b15498a8ded8", checked := Try.checked }
namespace Rows
def none {H : Type} : Left H := { results := [], args := [] }

/-- 'tollerlaw05.GenesisIs': WHATEVER THE INPUT: true; the input reads as it did. -/
def genesisIsSpec : ChangeSpec := { name := "genesisIs", fn := fun _ => fun
  | [d] => { results := [.lit (.bool true)], args := [d] }
  | _ => none }
def genesisIsRow : OpenClaim := { program := "ytgdlddjalilmhaa", sum := "487c3807d6263234a4e8d5e8bcf1c38f876f9ea2d0cda9a6b344b15498a8ded8", func := "toller/tollerlaw05.GenesisIs", spec := "genesisIs", apart := false }
def GenesisIsSaid : Prop := genesisIsRow.holds Try.pinned (OpenSpec.ofChange genesisIsSpec)

/-- ITS FALSE NEIGHBOUR: 'it returns false'. Refute it at one input. -/
def genesisIsWrong : ChangeSpec := { name := "genesisIs", fn := fun _ => fun
  | [d] => { results := [.lit (.bool false)], args := [d] }
  | _ => none }
def GenesisIsWrongFalsely : Prop := genesisIsRow.holds Try.pinned (OpenSpec.ofChange genesisIsWrong)

/-- 'tollerlaw05.GenesisOne': WHATEVER THE INPUT: true; the input reads as it did. -/
def genesisOneSpec : ChangeSpec := { name := "genesisOne", fn := fun _ => fun
  | [d1, d2] => { results := [.lit (.bool true)], args := [d1, d2] }
  | _ => none }
def genesisOneRow : OpenClaim := { program := "ytgdlddjalilmhaa", sum := "487c3807d6263234a4e8d5e8bcf1c38f876f9ea2d0cda9a6b344b15498a8ded8", func := "toller/tollerlaw05.GenesisOne", spec := "genesisOne", apart := false }
def GenesisOneSaid : Prop := genesisOneRow.holds Try.pinned (OpenSpec.ofChange genesisOneSpec)

/-- ITS FALSE NEIGHBOUR: 'it returns false'. Refute it at one input. -/
def genesisOneWrong : ChangeSpec := { name := "genesisOne", fn := fun _ => fun
  | [d1, d2] => { results := [.lit (.bool false)], args := [d1, d2] }
  | _ => none }
def GenesisOneWrongFalsely : Prop := genesisOneRow.holds Try.pinned (OpenSpec.ofChange genesisOneWrong)

/-- 'tollerlaw05.GenesisTotals': WHATEVER THE INPUT: true; the input reads as it did. -/
def genesisTotalsSpec : ChangeSpec := { name := "genesisTotals", fn := fun _ => fun
  | [d1, d2] => { results := [.lit (.bool true)], args := [d1, d2] }
  | _ => none }
def genesisTotalsRow : OpenClaim := { program := "ytgdlddjalilmhaa", sum := "487c3807d6263234a4e8d5e8bcf1c38f876f9ea2d0cda9a6b344b15498a8ded8", func := "toller/tollerlaw05.GenesisTotals", spec := "genesisTotals", apart := false }
def GenesisTotalsSaid : Prop := genesisTotalsRow.holds Try.pinned (OpenSpec.ofChange genesisTotalsSpec)

/-- ITS FALSE NEIGHBOUR: 'it returns false'. Refute it at one input. -/
def genesisTotalsWrong : ChangeSpec := { name := "genesisTotals", fn := fun _ => fun
  | [d1, d2] => { results := [.lit (.bool false)], args := [d1, d2] }
  | _ => none }
def GenesisTotalsWrongFalsely : Prop := genesisTotalsRow.holds Try.pinned (OpenSpec.ofChange genesisTotalsWrong)

/-- 'tollerlaw05.GenesisEpochs': WHATEVER THE INPUT: true; the input reads as it did. -/
def genesisEpochsSpec : ChangeSpec := { name := "genesisEpochs", fn := fun _ => fun
  | [d1, d2] => { results := [.lit (.bool true)], args := [d1, d2] }
  | _ => none }
def genesisEpochsRow : OpenClaim := { program := "ytgdlddjalilmhaa", sum := "487c3807d6263234a4e8d5e8bcf1c38f876f9ea2d0cda9a6b344b15498a8ded8", func := "toller/tollerlaw05.GenesisEpochs", spec := "genesisEpochs", apart := false }
def GenesisEpochsSaid : Prop := genesisEpochsRow.holds Try.pinned (OpenSpec.ofChange genesisEpochsSpec)

/-- ITS FALSE NEIGHBOUR: 'it returns false'. Refute it at one input. -/
def genesisEpochsWrong : ChangeSpec := { name := "genesisEpochs", fn := fun _ => fun
  | [d1, d2] => { results := [.lit (.bool false)], args := [d1, d2] }
  | _ => none }
def GenesisEpochsWrongFalsely : Prop := genesisEpochsRow.holds Try.pinned (OpenSpec.ofChange genesisEpochsWrong)

/-- 'tollerlaw05.GenesisLess': WHATEVER THE INPUT: true; the input reads as it did. -/
def genesisLessSpec : ChangeSpec := { name := "genesisLess", fn := fun _ => fun
  | [d1, d2] => { results := [.lit (.bool true)], args := [d1, d2] }
  | _ => none }
def genesisLessRow : OpenClaim := { program := "ytgdlddjalilmhaa", sum := "487c3807d6263234a4e8d5e8bcf1c38f876f9ea2d0cda9a6b344b15498a8ded8", func := "toller/tollerlaw05.GenesisLess", spec := "genesisLess", apart := false }
def GenesisLessSaid : Prop := genesisLessRow.holds Try.pinned (OpenSpec.ofChange genesisLessSpec)

/-- ITS FALSE NEIGHBOUR: 'it returns false'. Refute it at one input. -/
def genesisLessWrong : ChangeSpec := { name := "genesisLess", fn := fun _ => fun
  | [d1, d2] => { results := [.lit (.bool false)], args := [d1, d2] }
  | _ => none }
def GenesisLessWrongFalsely : Prop := genesisLessRow.holds Try.pinned (OpenSpec.ofChange genesisLessWrong)

/-- 'tollerlaw07.WireReads': WHATEVER THE INPUT: true; the input reads as it did. -/
def wireReadsSpec : ChangeSpec := { name := "wireReads", fn := fun _ => fun
  | [d] => { results := [.lit (.bool true)], args := [d] }
  | _ => none }
def wireReadsRow : OpenClaim := { program := "ytgdlddjalilmhaa", sum := "487c3807d6263234a4e8d5e8bcf1c38f876f9ea2d0cda9a6b344b15498a8ded8", func := "toller/tollerlaw07.WireReads", spec := "wireReads", apart := false }
def WireReadsSaid : Prop := wireReadsRow.holds Try.pinned (OpenSpec.ofChange wireReadsSpec)

/-- ITS FALSE NEIGHBOUR: 'it returns false'. Refute it at one input. -/
def wireReadsWrong : ChangeSpec := { name := "wireReads", fn := fun _ => fun
  | [d] => { results := [.lit (.bool false)], args := [d] }
  | _ => none }
def WireReadsWrongFalsely : Prop := wireReadsRow.holds Try.pinned (OpenSpec.ofChange wireReadsWrong)

/-- 'tollerlaw07.WireBack': WHATEVER THE INPUT: true; the input reads as it did. -/
def wireBackSpec : ChangeSpec := { name := "wireBack", fn := fun _ => fun
  | [d1, d2, d3] => { results := [.lit (.bool true)], args := [d1, d2, d3] }
  | _ => none }
def wireBackRow : OpenClaim := { program := "ytgdlddjalilmhaa", sum := "487c3807d6263234a4e8d5e8bcf1c38f876f9ea2d0cda9a6b344b15498a8ded8", func := "toller/tollerlaw07.WireBack", spec := "wireBack", apart := false }
def WireBackSaid : Prop := wireBackRow.holds Try.pinned (OpenSpec.ofChange wireBackSpec)

/-- ITS FALSE NEIGHBOUR: 'it returns false'. Refute it at one input. -/
def wireBackWrong : ChangeSpec := { name := "wireBack", fn := fun _ => fun
  | [d1, d2, d3] => { results := [.lit (.bool false)], args := [d1, d2, d3] }
  | _ => none }
def WireBackWrongFalsely : Prop := wireBackRow.holds Try.pinned (OpenSpec.ofChange wireBackWrong)

/-- 'tollerlaw07.WireUnlike': WHATEVER THE INPUT: true; the input reads as it did. -/
def wireUnlikeSpec : ChangeSpec := { name := "wireUnlike", fn := fun _ => fun
  | [d1, d2] => { results := [.lit (.bool true)], args := [d1, d2] }
  | _ => none }
def wireUnlikeRow : OpenClaim := { program := "ytgdlddjalilmhaa", sum := "487c3807d6263234a4e8d5e8bcf1c38f876f9ea2d0cda9a6b344b15498a8ded8", func := "toller/tollerlaw07.WireUnlike", spec := "wireUnlike", apart := false }
def WireUnlikeSaid : Prop := wireUnlikeRow.holds Try.pinned (OpenSpec.ofChange wireUnlikeSpec)

/-- ITS FALSE NEIGHBOUR: 'it returns false'. Refute it at one input. -/
def wireUnlikeWrong : ChangeSpec := { name := "wireUnlike", fn := fun _ => fun
  | [d1, d2] => { results := [.lit (.bool false)], args := [d1, d2] }
  | _ => none }
def WireUnlikeWrongFalsely : Prop := wireUnlikeRow.holds Try.pinned (OpenSpec.ofChange wireUnlikeWrong)

/-- 'tollerlaw07.WireLengths': WHATEVER THE INPUT: true; the input reads as it did. -/
def wireLengthsSpec : ChangeSpec := { name := "wireLengths", fn := fun _ => fun
  | [d] => { results := [.lit (.bool true)], args := [d] }
  | _ => none }
def wireLengthsRow : OpenClaim := { program := "ytgdlddjalilmhaa", sum := "487c3807d6263234a4e8d5e8bcf1c38f876f9ea2d0cda9a6b344b15498a8ded8", func := "toller/tollerlaw07.WireLengths", spec := "wireLengths", apart := false }
def WireLengthsSaid : Prop := wireLengthsRow.holds Try.pinned (OpenSpec.ofChange wireLengthsSpec)

/-- ITS FALSE NEIGHBOUR: 'it returns false'. Refute it at one input. -/
def wireLengthsWrong : ChangeSpec := { name := "wireLengths", fn := fun _ => fun
  | [d] => { results := [.lit (.bool false)], args := [d] }
  | _ => none }
def WireLengthsWrongFalsely : Prop := wireLengthsRow.holds Try.pinned (OpenSpec.ofChange wireLengthsWrong)

/-- 'tollerlaw07.WireTags': WHATEVER THE INPUT: true; the input reads as it did. -/
def wireTagsSpec : ChangeSpec := { name := "wireTags", fn := fun _ => fun
  | [d1, d2] => { results := [.lit (.bool true)], args := [d1, d2] }
  | _ => none }
def wireTagsRow : OpenClaim := { program := "ytgdlddjalilmhaa", sum := "487c3807d6263234a4e8d5e8bcf1c38f876f9ea2d0cda9a6b344b15498a8ded8", func := "toller/tollerlaw07.WireTags", spec := "wireTags", apart := false }
def WireTagsSaid : Prop := wireTagsRow.holds Try.pinned (OpenSpec.ofChange wireTagsSpec)

/-- ITS FALSE NEIGHBOUR: 'it returns false'. Refute it at one input. -/
def wireTagsWrong : ChangeSpec := { name := "wireTags", fn := fun _ => fun
  | [d1, d2] => { results := [.lit (.bool false)], args := [d1, d2] }
  | _ => none }
def WireTagsWrongFalsely : Prop := wireTagsRow.holds Try.pinned (OpenSpec.ofChange wireTagsWrong)

/-- 'tollerlaw05.GenesisBytes': WHATEVER THE INPUT: true; the input reads as it did. -/
def genesisBytesSpec : ChangeSpec := { name := "genesisBytes", fn := fun _ => fun
  | [d1, d2] => { results := [.lit (.bool true)], args := [d1, d2] }
  | _ => none }
def genesisBytesRow : OpenClaim := { program := "ytgdlddjalilmhaa", sum := "487c3807d6263234a4e8d5e8bcf1c38f876f9ea2d0cda9a6b344b15498a8ded8", func := "toller/tollerlaw05.GenesisBytes", spec := "genesisBytes", inPlace := ["math/bits.Add64"], recurses := true, apart := false }
def GenesisBytesSaid : Prop := genesisBytesRow.holds Try.pinned (OpenSpec.ofChange genesisBytesSpec)

/-- ITS FALSE NEIGHBOUR: 'it returns false'. Refute it at one input. -/
def genesisBytesWrong : ChangeSpec := { name := "genesisBytes", fn := fun _ => fun
  | [d1, d2] => { results := [.lit (.bool false)], args := [d1, d2] }
  | _ => none }
def GenesisBytesWrongFalsely : Prop := genesisBytesRow.holds Try.pinned (OpenSpec.ofChange genesisBytesWrong)

/-- 'tollerlaw07.WireIs': WHATEVER THE INPUT: true; the input reads as it did. -/
def wireIsSpec : ChangeSpec := { name := "wireIs", fn := fun _ => fun
  | [d] => { results := [.lit (.bool true)], args := [d] }
  | _ => none }
def wireIsRow : OpenClaim := { program := "ytgdlddjalilmhaa", sum := "487c3807d6263234a4e8d5e8bcf1c38f876f9ea2d0cda9a6b344b15498a8ded8", func := "toller/tollerlaw07.WireIs", spec := "wireIs", inPlace := ["math/bits.Add64"], recurses := true, apart := false }
def WireIsSaid : Prop := wireIsRow.holds Try.pinned (OpenSpec.ofChange wireIsSpec)

/-- ITS FALSE NEIGHBOUR: 'it returns false'. Refute it at one input. -/
def wireIsWrong : ChangeSpec := { name := "wireIs", fn := fun _ => fun
  | [d] => { results := [.lit (.bool false)], args := [d] }
  | _ => none }
def WireIsWrongFalsely : Prop := wireIsRow.holds Try.pinned (OpenSpec.ofChange wireIsWrong)

/- THE SECOND FORM. 'bulk': how many values and letters a reading holds, each counted each time it is reached (what is shared counts as often as it is met; a slice's spare places count too). A statement '..UptoSaid' is the law's where the arguments, and the package variables that the reading takes, are together of bulk at most 1048576: NARROWER than '..Said'. Prove '..Said' where nothing that the law and all that it calls make is longer than what came in: it says more and counts as full. Else prove '..UptoSaid'. A law counts once. -/
mutual
def uptoBulk {H : Type} : DataW H → Nat
  | .lit (.string bytes) => bytes.length + 1
  | .lit _ => 1
  | .nil => 1
  | .ptr d => uptoBulk d + 1
  | .slice elems spare => uptoBulkAll elems + uptoBulkAll spare + 1
  | .agg parts => uptoBulkAll parts + 1
  | .iface _ d => uptoBulk d + 1
  | .map entries => uptoBulkEntries entries + 1
  | .held _ => 1
def uptoBulkAll {H : Type} : List (DataW H) → Nat
  | [] => 0
  | d :: r => uptoBulk d + uptoBulkAll r
def uptoBulkEntries {H : Type} : List (Lit × DataW H) → Nat
  | [] => 0
  | x :: r => uptoBulkEntry x + uptoBulkEntries r
def uptoBulkEntry {H : Type} : Lit × DataW H → Nat
  | (.string bytes, d) => bytes.length + uptoBulk d + 1
  | (_, d) => uptoBulk d + 1
 end
def uptoSmall : (H : Type) → List (DataW H) → Bool := fun _ ds => decide (uptoBulkAll ds ≤ 1048576)
def OpenSpec.upto (s : _root_.Go.ChangeSpec) : _root_.Go.OpenSpec := { _root_.Go.OpenSpec.ofChange s with cond := some uptoSmall }

/-- 'tollerlaw05.GenesisIs', WHERE WHAT IT READS IS OF BULK AT MOST 1048576: true; the input reads as it did. -/
def genesisIsUptoRow : OpenClaim := { program := "ytgdlddjalilmhaa", sum := "487c3807d6263234a4e8d5e8bcf1c38f876f9ea2d0cda9a6b344b15498a8ded8", func := "toller/tollerlaw05.GenesisIs", spec := "genesisIs", apart := false, narrowed := true }
def GenesisIsUptoSaid : Prop := genesisIsUptoRow.holds Try.pinned (OpenSpec.upto genesisIsSpec)

/-- 'tollerlaw05.GenesisOne', WHERE WHAT IT READS IS OF BULK AT MOST 1048576: true; the input reads as it did. -/
def genesisOneUptoRow : OpenClaim := { program := "ytgdlddjalilmhaa", sum := "487c3807d6263234a4e8d5e8bcf1c38f876f9ea2d0cda9a6b344b15498a8ded8", func := "toller/tollerlaw05.GenesisOne", spec := "genesisOne", apart := false, narrowed := true }
def GenesisOneUptoSaid : Prop := genesisOneUptoRow.holds Try.pinned (OpenSpec.upto genesisOneSpec)

/-- 'tollerlaw05.GenesisTotals', WHERE WHAT IT READS IS OF BULK AT MOST 1048576: true; the input reads as it did. -/
def genesisTotalsUptoRow : OpenClaim := { program := "ytgdlddjalilmhaa", sum := "487c3807d6263234a4e8d5e8bcf1c38f876f9ea2d0cda9a6b344b15498a8ded8", func := "toller/tollerlaw05.GenesisTotals", spec := "genesisTotals", apart := false, narrowed := true }
def GenesisTotalsUptoSaid : Prop := genesisTotalsUptoRow.holds Try.pinned (OpenSpec.upto genesisTotalsSpec)

/-- 'tollerlaw05.GenesisEpochs', WHERE WHAT IT READS IS OF BULK AT MOST 1048576: true; the input reads as it did. -/
def genesisEpochsUptoRow : OpenClaim := { program := "ytgdlddjalilmhaa", sum := "487c3807d6263234a4e8d5e8bcf1c38f876f9ea2d0cda9a6b344b15498a8ded8", func := "toller/tollerlaw05.GenesisEpochs", spec := "genesisEpochs", apart := false, narrowed := true }
def GenesisEpochsUptoSaid : Prop := genesisEpochsUptoRow.holds Try.pinned (OpenSpec.upto genesisEpochsSpec)

/-- 'tollerlaw05.GenesisLess', WHERE WHAT IT READS IS OF BULK AT MOST 1048576: true; the input reads as it did. -/
def genesisLessUptoRow : OpenClaim := { program := "ytgdlddjalilmhaa", sum := "487c3807d6263234a4e8d5e8bcf1c38f876f9ea2d0cda9a6b344b15498a8ded8", func := "toller/tollerlaw05.GenesisLess", spec := "genesisLess", apart := false, narrowed := true }
def GenesisLessUptoSaid : Prop := genesisLessUptoRow.holds Try.pinned (OpenSpec.upto genesisLessSpec)

/-- 'tollerlaw07.WireReads', WHERE WHAT IT READS IS OF BULK AT MOST 1048576: true; the input reads as it did. -/
def wireReadsUptoRow : OpenClaim := { program := "ytgdlddjalilmhaa", sum := "487c3807d6263234a4e8d5e8bcf1c38f876f9ea2d0cda9a6b344b15498a8ded8", func := "toller/tollerlaw07.WireReads", spec := "wireReads", apart := false, narrowed := true }
def WireReadsUptoSaid : Prop := wireReadsUptoRow.holds Try.pinned (OpenSpec.upto wireReadsSpec)

/-- 'tollerlaw07.WireBack', WHERE WHAT IT READS IS OF BULK AT MOST 1048576: true; the input reads as it did. -/
def wireBackUptoRow : OpenClaim := { program := "ytgdlddjalilmhaa", sum := "487c3807d6263234a4e8d5e8bcf1c38f876f9ea2d0cda9a6b344b15498a8ded8", func := "toller/tollerlaw07.WireBack", spec := "wireBack", apart := false, narrowed := true }
def WireBackUptoSaid : Prop := wireBackUptoRow.holds Try.pinned (OpenSpec.upto wireBackSpec)

/-- 'tollerlaw07.WireUnlike', WHERE WHAT IT READS IS OF BULK AT MOST 1048576: true; the input reads as it did. -/
def wireUnlikeUptoRow : OpenClaim := { program := "ytgdlddjalilmhaa", sum := "487c3807d6263234a4e8d5e8bcf1c38f876f9ea2d0cda9a6b344b15498a8ded8", func := "toller/tollerlaw07.WireUnlike", spec := "wireUnlike", apart := false, narrowed := true }
def WireUnlikeUptoSaid : Prop := wireUnlikeUptoRow.holds Try.pinned (OpenSpec.upto wireUnlikeSpec)

/-- 'tollerlaw07.WireLengths', WHERE WHAT IT READS IS OF BULK AT MOST 1048576: true; the input reads as it did. -/
def wireLengthsUptoRow : OpenClaim := { program := "ytgdlddjalilmhaa", sum := "487c3807d6263234a4e8d5e8bcf1c38f876f9ea2d0cda9a6b344b15498a8ded8", func := "toller/tollerlaw07.WireLengths", spec := "wireLengths", apart := false, narrowed := true }
def WireLengthsUptoSaid : Prop := wireLengthsUptoRow.holds Try.pinned (OpenSpec.upto wireLengthsSpec)

/-- 'tollerlaw07.WireTags', WHERE WHAT IT READS IS OF BULK AT MOST 1048576: true; the input reads as it did. -/
def wireTagsUptoRow : OpenClaim := { program := "ytgdlddjalilmhaa", sum := "487c3807d6263234a4e8d5e8bcf1c38f876f9ea2d0cda9a6b344b15498a8ded8", func := "toller/tollerlaw07.WireTags", spec := "wireTags", apart := false, narrowed := true }
def WireTagsUptoSaid : Prop := wireTagsUptoRow.holds Try.pinned (OpenSpec.upto wireTagsSpec)

/-- 'tollerlaw05.GenesisBytes', WHERE WHAT IT READS IS OF BULK AT MOST 1048576: true; the input reads as it did. -/
def genesisBytesUptoRow : OpenClaim := { program := "ytgdlddjalilmhaa", sum := "487c3807d6263234a4e8d5e8bcf1c38f876f9ea2d0cda9a6b344b15498a8ded8", func := "toller/tollerlaw05.GenesisBytes", spec := "genesisBytes", inPlace := ["math/bits.Add64"], recurses := true, apart := false, narrowed := true }
def GenesisBytesUptoSaid : Prop := genesisBytesUptoRow.holds Try.pinned (OpenSpec.upto genesisBytesSpec)

/-- 'tollerlaw07.WireIs', WHERE WHAT IT READS IS OF BULK AT MOST 1048576: true; the input reads as it did. -/
def wireIsUptoRow : OpenClaim := { program := "ytgdlddjalilmhaa", sum := "487c3807d6263234a4e8d5e8bcf1c38f876f9ea2d0cda9a6b344b15498a8ded8", func := "toller/tollerlaw07.WireIs", spec := "wireIs", inPlace := ["math/bits.Add64"], recurses := true, apart := false, narrowed := true }
def WireIsUptoSaid : Prop := wireIsUptoRow.holds Try.pinned (OpenSpec.upto wireIsSpec)

end Rows
end Go.Proofs.Ytgdlddjalilmhaa
