import Derived.Test.YtdeemlgkckpedaaMTree
set_option linter.unusedVariables false
set_option linter.unusedSimpArgs false
namespace Go.SL
/-! ### sums over the tree -/
/-- how many kids the first places have -/
def kidsum (t : TreeS) : Nat → Nat
  | 0 => 0
  | i + 1 => kidsum t i + (t.kids ((t.nodes[i]?).getD nodeNo).root).length
theorem kidsum_succ (t : TreeS) {i : Nat} (hi : i < t.nodes.length) {r : Root} (hr : r = t.nodes[i].root) : kidsum t (i + 1) = kidsum t i + (t.kids r).length := by
  rw [hr, kidsum, List.getElem?_eq_getElem hi, Option.getD_some]
theorem kids_eq {t : TreeS} (hw : t.WF) {i : Nat} (hi : i < t.nodes.length) : t.kids t.nodes[i].root = (t.nodes.filter fun n => decide (n.parent = (i : Int))).map (·.root) := by
  unfold TreeS.kids
  rw [idxOf_get hw.nd (List.getElem?_eq_getElem hi)]
theorem countP_split {α : Type} (p q r : α → Bool) (l : List α) (h : ∀ x ∈ l, (p x).toNat = (q x).toNat + (r x).toNat) : l.countP p = l.countP q + l.countP r := by
  induction l with
  | nil => rfl
  | cons x xs ih =>
    have h1 := h x List.mem_cons_self
    have h2 := ih fun y hy => h y (List.mem_cons_of_mem _ hy)
    rw [List.countP_cons, List.countP_cons, List.countP_cons, h2]
    cases e1 : p x <;> cases e2 : q x <;> cases e3 : r x <;> simp [e1, e2, e3] at h1 ⊢ <;> omega
theorem kidsum_eq {t : TreeS} (hw : t.WF) : ∀ i, i ≤ t.nodes.length → kidsum t i = t.nodes.countP fun n => decide (0 ≤ n.parent ∧ n.parent < (i : Int)) := by
  intro i
  induction i with
  | zero =>
    intro _
    symm
    rw [List.countP_eq_zero.2]
    · rfl
    · intro n _ h
      have := of_decide_eq_true h
      omega
  | succ i ih =>
    intro hi
    rw [kidsum_succ t (by omega) rfl, ih (by omega), kids_eq hw (by omega), List.length_map, ← List.countP_eq_length_filter]
    symm
    apply countP_split
    intro n _
    by_cases h1 : 0 ≤ n.parent ∧ n.parent < ((i : Nat) : Int)
    · rw [decide_eq_true h1, decide_eq_true (show 0 ≤ n.parent ∧ n.parent < ((i + 1 : Nat) : Int) by omega), decide_eq_false (by omega)]; rfl
    · by_cases h2 : n.parent = (i : Int)
      · rw [decide_eq_false h1, decide_eq_true (show 0 ≤ n.parent ∧ n.parent < ((i + 1 : Nat) : Int) by omega), decide_eq_true h2]; rfl
      · rw [decide_eq_false h1, decide_eq_false (show ¬ (0 ≤ n.parent ∧ n.parent < ((i + 1 : Nat) : Int)) by omega), decide_eq_false h2]; rfl
theorem kidsum_le {t : TreeS} (hw : t.WF) {i : Nat} (hi : i ≤ t.nodes.length) : kidsum t i ≤ t.nodes.length := by
  rw [kidsum_eq hw i hi]; exact List.countP_le_length
theorem kidsum_all {t : TreeS} (hw : t.WF) : kidsum t t.nodes.length + 1 = t.nodes.length := by
  rw [kidsum_eq hw _ (Nat.le_refl _)]
  have hpa := hw.pa
  have hne := hw.ne
  generalize t.nodes = ns at hpa hne
  cases ns with
  | nil => simp at hne
  | cons n0 rest =>
    have h0 : n0.parent = -1 := by
      rcases hpa 0 n0 rfl with ⟨_, h⟩ | ⟨j, m, h1, h2, _⟩
      · exact h
      · omega
    rw [List.countP_cons, decide_eq_false (by omega)]
    have : (rest.countP fun n => decide (0 ≤ n.parent ∧ n.parent < (((n0 :: rest).length : Nat) : Int))) = rest.length := by
      rw [List.countP_eq_length]
      intro n hn
      obtain ⟨k, hk, rfl⟩ := List.mem_iff_getElem.1 hn
      rcases hpa (k + 1) rest[k] (by simp [hk]) with ⟨h, _⟩ | ⟨j, m, h1, h2, _⟩
      · omega
      · exact decide_eq_true (by simp only [List.length_cons]; omega)
    rw [this]
    simp
/-- a kid stands in the tree, and its parent is the place -/
theorem kid_at {t : TreeS} (hw : t.WF) {i : Nat} (hi : i < t.nodes.length) {r : Root} (hr : r = t.nodes[i].root) {y : Nat} (hy : y < (t.kids r).length) :
    ∃ b m, t.place (t.kids r)[y] = ((b : Nat) : Int) ∧ t.node ((b : Nat) : Int) = some m ∧ m.parent = (i : Int) := by
  subst hr
  have h1 : (t.kids t.nodes[i].root)[y] ∈ (t.nodes.filter fun n => decide (n.parent = (i : Int))).map (·.root) := by
    rw [← kids_eq hw hi]; exact List.getElem_mem hy
  obtain ⟨n, hn, hr⟩ := List.mem_map.1 h1
  obtain ⟨hn1, hn2⟩ := List.mem_filter.1 hn
  obtain ⟨b, hb, rfl⟩ := List.mem_iff_getElem.1 hn1
  refine ⟨b, t.nodes[b], ?_, TreeS.node_nat hb, of_decide_eq_true hn2⟩
  rw [← hr]
  unfold TreeS.place
  rw [idxOf_get hw.nd (List.getElem?_eq_getElem hb)]
end Go.SL
