/-
  No cell of these rows narrows 'for every input' (looked for: loops, veiled, ifaces, maps, wideKeys, modest, calm, conditions, laid).
  DERIVED. THE GIVEN ROWS OF THIS SEAT. 9 by the template 'for every input the law returns true; each argument reads behind the call as it read before'; 0 by the template 'total and deterministic' (their statements: YtoeodcnpmhbhmaaTotals.lean).
  GIVEN WITH THE SEED: the statements are not yours to turn. If you find one false, say at which input.
  Laid BY PROGRAM, IN A SANDBOX (cutbox-rows.mjs): the forced cells as the released guide's own fill.sh prints them over the translation 3abafebc74ee4329… (all of the seat's roots in one cut). By AI agents, Wed Nov 11 2026. No macro, syntax, notation, axiom, sorry.
-/
import Derived.Test.YtoeodcnpmhbhmaaChecked
import GoSem.Claim
import GoSem.ClaimJoined
import GoSem.ClaimMapViews
import Derived.JoinedTies
import Derived.KernelRfl
namespace Go.Proofs.Ytoeodcnpmhbhmaa
/- THE CELL 'sum', in the pinned program and in every row, IS THE sha256 OF THE DUMP (.gsa) THAT YtoeodcnpmhbhmaaProg.lean LOADS. Nothing in Lean hashes anything: it is a label: what it is worth is what the hold of that sum in a sandbox is worth. -/
noncomputable def Try.pinned : Pinned := { name := "ytoeodcnpmhbhmaa", sum := "3abafebc74ee432906254cb02b16dd580d11dd8ea54de5c93e4c617a524b276b", checked := Try.checked }
namespace Rows
def none {H : Type} : Left H := { results := [], args := [] }

/-- 'tollerlaw03.ShaCuts': WHATEVER THE INPUT: true; the input reads as it did. -/
def shaCutsSpec : ChangeSpec := { name := "shaCuts", fn := fun _ => fun
  | [d1, d2] => { results := [.lit (.bool true)], args := [d1, d2] }
  | _ => none }
def shaCutsRow : OpenClaim := { program := "ytoeodcnpmhbhmaa", sum := "3abafebc74ee432906254cb02b16dd580d11dd8ea54de5c93e4c617a524b276b", func := "toller/tollerlaw03.ShaCuts", spec := "shaCuts", apart := false }
def ShaCutsSaid : Prop := shaCutsRow.holds Try.pinned (OpenSpec.ofChange shaCutsSpec)

/-- ITS FALSE NEIGHBOUR: 'it returns false'. Refute it at one input. -/
def shaCutsWrong : ChangeSpec := { name := "shaCuts", fn := fun _ => fun
  | [d1, d2] => { results := [.lit (.bool false)], args := [d1, d2] }
  | _ => none }
def ShaCutsWrongFalsely : Prop := shaCutsRow.holds Try.pinned (OpenSpec.ofChange shaCutsWrong)

/-- 'tollerlaw03.ShaShows': WHATEVER THE INPUT: true; the input reads as it did. -/
def shaShowsSpec : ChangeSpec := { name := "shaShows", fn := fun _ => fun
  | [d1, d2] => { results := [.lit (.bool true)], args := [d1, d2] }
  | _ => none }
def shaShowsRow : OpenClaim := { program := "ytoeodcnpmhbhmaa", sum := "3abafebc74ee432906254cb02b16dd580d11dd8ea54de5c93e4c617a524b276b", func := "toller/tollerlaw03.ShaShows", spec := "shaShows", apart := false }
def ShaShowsSaid : Prop := shaShowsRow.holds Try.pinned (OpenSpec.ofChange shaShowsSpec)

/-- ITS FALSE NEIGHBOUR: 'it returns false'. Refute it at one input. -/
def shaShowsWrong : ChangeSpec := { name := "shaShows", fn := fun _ => fun
  | [d1, d2] => { results := [.lit (.bool false)], args := [d1, d2] }
  | _ => none }
def ShaShowsWrongFalsely : Prop := shaShowsRow.holds Try.pinned (OpenSpec.ofChange shaShowsWrong)

/-- 'tollerlaw03.ShaEmpty': WHATEVER THE INPUT: true; the input reads as it did. -/
def shaEmptySpec : ChangeSpec := { name := "shaEmpty", fn := fun _ => fun
  | [d1, d2, d3] => { results := [.lit (.bool true)], args := [d1, d2, d3] }
  | _ => none }
def shaEmptyRow : OpenClaim := { program := "ytoeodcnpmhbhmaa", sum := "3abafebc74ee432906254cb02b16dd580d11dd8ea54de5c93e4c617a524b276b", func := "toller/tollerlaw03.ShaEmpty", spec := "shaEmpty", apart := false }
def ShaEmptySaid : Prop := shaEmptyRow.holds Try.pinned (OpenSpec.ofChange shaEmptySpec)

/-- ITS FALSE NEIGHBOUR: 'it returns false'. Refute it at one input. -/
def shaEmptyWrong : ChangeSpec := { name := "shaEmpty", fn := fun _ => fun
  | [d1, d2, d3] => { results := [.lit (.bool false)], args := [d1, d2, d3] }
  | _ => none }
def ShaEmptyWrongFalsely : Prop := shaEmptyRow.holds Try.pinned (OpenSpec.ofChange shaEmptyWrong)

/-- 'tollerlaw03.ShaOrder': WHATEVER THE INPUT: true; the input reads as it did. -/
def shaOrderSpec : ChangeSpec := { name := "shaOrder", fn := fun _ => fun
  | [d1, d2, d3] => { results := [.lit (.bool true)], args := [d1, d2, d3] }
  | _ => none }
def shaOrderRow : OpenClaim := { program := "ytoeodcnpmhbhmaa", sum := "3abafebc74ee432906254cb02b16dd580d11dd8ea54de5c93e4c617a524b276b", func := "toller/tollerlaw03.ShaOrder", spec := "shaOrder", apart := false }
def ShaOrderSaid : Prop := shaOrderRow.holds Try.pinned (OpenSpec.ofChange shaOrderSpec)

/-- ITS FALSE NEIGHBOUR: 'it returns false'. Refute it at one input. -/
def shaOrderWrong : ChangeSpec := { name := "shaOrder", fn := fun _ => fun
  | [d1, d2, d3] => { results := [.lit (.bool false)], args := [d1, d2, d3] }
  | _ => none }
def ShaOrderWrongFalsely : Prop := shaOrderRow.holds Try.pinned (OpenSpec.ofChange shaOrderWrong)

/-- 'tollerlaw04.MacKeys': WHATEVER THE INPUT: true; the input reads as it did. -/
def macKeysSpec : ChangeSpec := { name := "macKeys", fn := fun _ => fun
  | [d1, d2, d3] => { results := [.lit (.bool true)], args := [d1, d2, d3] }
  | _ => none }
def macKeysRow : OpenClaim := { program := "ytoeodcnpmhbhmaa", sum := "3abafebc74ee432906254cb02b16dd580d11dd8ea54de5c93e4c617a524b276b", func := "toller/tollerlaw04.MacKeys", spec := "macKeys", apart := false }
def MacKeysSaid : Prop := macKeysRow.holds Try.pinned (OpenSpec.ofChange macKeysSpec)

/-- ITS FALSE NEIGHBOUR: 'it returns false'. Refute it at one input. -/
def macKeysWrong : ChangeSpec := { name := "macKeys", fn := fun _ => fun
  | [d1, d2, d3] => { results := [.lit (.bool false)], args := [d1, d2, d3] }
  | _ => none }
def MacKeysWrongFalsely : Prop := macKeysRow.holds Try.pinned (OpenSpec.ofChange macKeysWrong)

/-- 'tollerlaw04.MacJoins': WHATEVER THE INPUT: true; the input reads as it did. -/
def macJoinsSpec : ChangeSpec := { name := "macJoins", fn := fun _ => fun
  | [d1, d2, d3] => { results := [.lit (.bool true)], args := [d1, d2, d3] }
  | _ => none }
def macJoinsRow : OpenClaim := { program := "ytoeodcnpmhbhmaa", sum := "3abafebc74ee432906254cb02b16dd580d11dd8ea54de5c93e4c617a524b276b", func := "toller/tollerlaw04.MacJoins", spec := "macJoins", apart := false }
def MacJoinsSaid : Prop := macJoinsRow.holds Try.pinned (OpenSpec.ofChange macJoinsSpec)

/-- ITS FALSE NEIGHBOUR: 'it returns false'. Refute it at one input. -/
def macJoinsWrong : ChangeSpec := { name := "macJoins", fn := fun _ => fun
  | [d1, d2, d3] => { results := [.lit (.bool false)], args := [d1, d2, d3] }
  | _ => none }
def MacJoinsWrongFalsely : Prop := macJoinsRow.holds Try.pinned (OpenSpec.ofChange macJoinsWrong)

/-- 'tollerlaw04.MacPairs': WHATEVER THE INPUT: true; the input reads as it did. -/
def macPairsSpec : ChangeSpec := { name := "macPairs", fn := fun _ => fun
  | [d1, d2] => { results := [.lit (.bool true)], args := [d1, d2] }
  | _ => none }
def macPairsRow : OpenClaim := { program := "ytoeodcnpmhbhmaa", sum := "3abafebc74ee432906254cb02b16dd580d11dd8ea54de5c93e4c617a524b276b", func := "toller/tollerlaw04.MacPairs", spec := "macPairs", apart := false }
def MacPairsSaid : Prop := macPairsRow.holds Try.pinned (OpenSpec.ofChange macPairsSpec)

/-- ITS FALSE NEIGHBOUR: 'it returns false'. Refute it at one input. -/
def macPairsWrong : ChangeSpec := { name := "macPairs", fn := fun _ => fun
  | [d1, d2] => { results := [.lit (.bool false)], args := [d1, d2] }
  | _ => none }
def MacPairsWrongFalsely : Prop := macPairsRow.holds Try.pinned (OpenSpec.ofChange macPairsWrong)

/-- 'tollerlaw03.ShaIs': WHATEVER THE INPUT: true; the input reads as it did. -/
def shaIsSpec : ChangeSpec := { name := "shaIs", fn := fun _ => fun
  | [d1, d2, d3] => { results := [.lit (.bool true)], args := [d1, d2, d3] }
  | _ => none }
def shaIsRow : OpenClaim := { program := "ytoeodcnpmhbhmaa", sum := "3abafebc74ee432906254cb02b16dd580d11dd8ea54de5c93e4c617a524b276b", func := "toller/tollerlaw03.ShaIs", spec := "shaIs", inPlace := ["math/bits.Add64"], apart := false }
def ShaIsSaid : Prop := shaIsRow.holds Try.pinned (OpenSpec.ofChange shaIsSpec)

/-- ITS FALSE NEIGHBOUR: 'it returns false'. Refute it at one input. -/
def shaIsWrong : ChangeSpec := { name := "shaIs", fn := fun _ => fun
  | [d1, d2, d3] => { results := [.lit (.bool false)], args := [d1, d2, d3] }
  | _ => none }
def ShaIsWrongFalsely : Prop := shaIsRow.holds Try.pinned (OpenSpec.ofChange shaIsWrong)

/-- 'tollerlaw04.MacIs': WHATEVER THE INPUT: true; the input reads as it did. -/
def macIsSpec : ChangeSpec := { name := "macIs", fn := fun _ => fun
  | [d1, d2, d3] => { results := [.lit (.bool true)], args := [d1, d2, d3] }
  | _ => none }
def macIsRow : OpenClaim := { program := "ytoeodcnpmhbhmaa", sum := "3abafebc74ee432906254cb02b16dd580d11dd8ea54de5c93e4c617a524b276b", func := "toller/tollerlaw04.MacIs", spec := "macIs", inPlace := ["math/bits.Add64"], apart := false }
def MacIsSaid : Prop := macIsRow.holds Try.pinned (OpenSpec.ofChange macIsSpec)

/-- ITS FALSE NEIGHBOUR: 'it returns false'. Refute it at one input. -/
def macIsWrong : ChangeSpec := { name := "macIs", fn := fun _ => fun
  | [d1, d2, d3] => { results := [.lit (.bool false)], args := [d1, d2, d3] }
  | _ => none }
def MacIsWrongFalsely : Prop := macIsRow.holds Try.pinned (OpenSpec.ofChange macIsWrong)

/- THE SECOND FORM. 'bulk': how many values and letters a reading holds, each counted each time it is reached (what is shared counts as often as it is met; a slice's spare places count too). A statement '..UptoSaid' is the law's where the arguments, and the package variables that the reading takes, are together of bulk at most 1048576: NARROWER than '..Said'. Prove '..Said' where nothing that the law and all that it calls make is longer than what came in: it says more and counts as full. Else prove '..UptoSaid'. A law counts once. -/
mutual
def uptoBulk {H : Type} : DataW H → Nat
  | .lit (.string bytes) => bytes.length + 1
  | .lit _ => 1
  | .nil => 1
  | .ptr d => uptoBulk d + 1
  | .slice elems spare => uptoBulkAll elems + uptoBulkAll spare + 1
  | .agg parts => uptoBulkAll parts + 1
  | .iface _ d => uptoBulk d + 1
  | .map entries => uptoBulkEntries entries + 1
  | .held _ => 1
def uptoBulkAll {H : Type} : List (DataW H) → Nat
  | [] => 0
  | d :: r => uptoBulk d + uptoBulkAll r
def uptoBulkEntries {H : Type} : List (Lit × DataW H) → Nat
  | [] => 0
  | x :: r => uptoBulkEntry x + uptoBulkEntries r
def uptoBulkEntry {H : Type} : Lit × DataW H → Nat
  | (.string bytes, d) => bytes.length + uptoBulk d + 1
  | (_, d) => uptoBulk d + 1
 end
def uptoSmall : (H : Type) → List (DataW H) → Bool := fun _ ds => decide (uptoBulkAll ds ≤ 1048576)
def OpenSpec.upto (s : _root_.Go.ChangeSpec) : _root_.Go.OpenSpec := { _root_.Go.OpenSpec.ofChange s with cond := some uptoSmall }

/-- 'tollerlaw03.ShaCuts', WHERE WHAT IT READS IS OF BULK AT MOST 1048576: true; the input reads as it did. -/
def shaCutsUptoRow : OpenClaim := { program := "ytoeodcnpmhbhmaa", sum := "3abafebc74ee432906254cb02b16dd580d11dd8ea54de5c93e4c617a524b276b", func := "toller/tollerlaw03.ShaCuts", spec := "shaCuts", apart := false, narrowed := true }
def ShaCutsUptoSaid : Prop := shaCutsUptoRow.holds Try.pinned (OpenSpec.upto shaCutsSpec)

/-- 'tollerlaw03.ShaShows', WHERE WHAT IT READS IS OF BULK AT MOST 1048576: true; the input reads as it did. -/
def shaShowsUptoRow : OpenClaim := { program := "ytoeodcnpmhbhmaa", sum := "3abafebc74ee432906254cb02b16dd580d11dd8ea54de5c93e4c617a524b276b", func := "toller/tollerlaw03.ShaShows", spec := "shaShows", apart := false, narrowed := true }
def ShaShowsUptoSaid : Prop := shaShowsUptoRow.holds Try.pinned (OpenSpec.upto shaShowsSpec)

/-- 'tollerlaw03.ShaEmpty', WHERE WHAT IT READS IS OF BULK AT MOST 1048576: true; the input reads as it did. -/
def shaEmptyUptoRow : OpenClaim := { program := "ytoeodcnpmhbhmaa", sum := "3abafebc74ee432906254cb02b16dd580d11dd8ea54de5c93e4c617a524b276b", func := "toller/tollerlaw03.ShaEmpty", spec := "shaEmpty", apart := false, narrowed := true }
def ShaEmptyUptoSaid : Prop := shaEmptyUptoRow.holds Try.pinned (OpenSpec.upto shaEmptySpec)

/-- 'tollerlaw03.ShaOrder', WHERE WHAT IT READS IS OF BULK AT MOST 1048576: true; the input reads as it did. -/
def shaOrderUptoRow : OpenClaim := { program := "ytoeodcnpmhbhmaa", sum := "3abafebc74ee432906254cb02b16dd580d11dd8ea54de5c93e4c617a524b276b", func := "toller/tollerlaw03.ShaOrder", spec := "shaOrder", apart := false, narrowed := true }
def ShaOrderUptoSaid : Prop := shaOrderUptoRow.holds Try.pinned (OpenSpec.upto shaOrderSpec)

/-- 'tollerlaw04.MacKeys', WHERE WHAT IT READS IS OF BULK AT MOST 1048576: true; the input reads as it did. -/
def macKeysUptoRow : OpenClaim := { program := "ytoeodcnpmhbhmaa", sum := "3abafebc74ee432906254cb02b16dd580d11dd8ea54de5c93e4c617a524b276b", func := "toller/tollerlaw04.MacKeys", spec := "macKeys", apart := false, narrowed := true }
def MacKeysUptoSaid : Prop := macKeysUptoRow.holds Try.pinned (OpenSpec.upto macKeysSpec)

/-- 'tollerlaw04.MacJoins', WHERE WHAT IT READS IS OF BULK AT MOST 1048576: true; the input reads as it did. -/
def macJoinsUptoRow : OpenClaim := { program := "ytoeodcnpmhbhmaa", sum := "3abafebc74ee432906254cb02b16dd580d11dd8ea54de5c93e4c617a524b276b", func := "toller/tollerlaw04.MacJoins", spec := "macJoins", apart := false, narrowed := true }
def MacJoinsUptoSaid : Prop := macJoinsUptoRow.holds Try.pinned (OpenSpec.upto macJoinsSpec)

/-- 'tollerlaw04.MacPairs', WHERE WHAT IT READS IS OF BULK AT MOST 1048576: true; the input reads as it did. -/
def macPairsUptoRow : OpenClaim := { program := "ytoeodcnpmhbhmaa", sum := "3abafebc74ee432906254cb02b16dd580d11dd8ea54de5c93e4c617a524b276b", func := "toller/tollerlaw04.MacPairs", spec := "macPairs", apart := false, narrowed := true }
def MacPairsUptoSaid : Prop := macPairsUptoRow.holds Try.pinned (OpenSpec.upto macPairsSpec)

/-- 'tollerlaw03.ShaIs', WHERE WHAT IT READS IS OF BULK AT MOST 1048576: true; the input reads as it did. -/
def shaIsUptoRow : OpenClaim := { program := "ytoeodcnpmhbhmaa", sum := "3abafebc74ee432906254cb02b16dd580d11dd8ea54de5c93e4c617a524b276b", func := "toller/tollerlaw03.ShaIs", spec := "shaIs", inPlace := ["math/bits.Add64"], apart := false, narrowed := true }
def ShaIsUptoSaid : Prop := shaIsUptoRow.holds Try.pinned (OpenSpec.upto shaIsSpec)

/-- 'tollerlaw04.MacIs', WHERE WHAT IT READS IS OF BULK AT MOST 1048576: true; the input reads as it did. -/
def macIsUptoRow : OpenClaim := { program := "ytoeodcnpmhbhmaa", sum := "3abafebc74ee432906254cb02b16dd580d11dd8ea54de5c93e4c617a524b276b", func := "toller/tollerlaw04.MacIs", spec := "macIs", inPlace := ["math/bits.Add64"], apart := false, narrowed := true }
def MacIsUptoSaid : Prop := macIsUptoRow.holds Try.pinned (OpenSpec.upto macIsSpec)

end Rows
end Go.Proofs.Ytoeodcnpmhbhmaa
