import Derived.Test.YtdeemlgkckpedaaMTree2
set_option linter.unusedVariables false
namespace Go.SL
theorem TreeS.node_out {t : TreeS} {x : Int} (h : ¬ (0 ≤ x ∧ x < t.nodes.length)) : t.node x = none := by
  unfold TreeS.node
  by_cases h0 : 0 ≤ x
  · rw [if_pos h0, List.getElem?_eq_none (by omega)]
  · rw [if_neg h0]
end Go.SL
