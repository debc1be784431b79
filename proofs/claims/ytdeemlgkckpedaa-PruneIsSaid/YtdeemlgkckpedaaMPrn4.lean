import Derived.Test.YtdeemlgkckpedaaMPrn3
set_option linter.unusedVariables false
set_option linter.unusedSimpArgs false
namespace Go.SL
/-! ### what the laws of pruning ask -/
theorem place_rt {t : TreeS} (hw : t.WF) {i : Nat} (hi : i < t.nodes.length) : t.place (rtA t.nodes i) = (i : Int) := by unfold TreeS.place; rw [idx_rt hw hi]
theorem place_pr {t : TreeS} (hw : t.WF) {a i : Nat} (hi : i < t.nodes.length) : (prT t a).place (rtA t.nodes i) = if belI t.nodes a (i : Int) = true then ((rk t.nodes a i : Nat) : Int) else -1 := by
  unfold TreeS.place prT
  dsimp only
  rw [idx_prN hw (Nat.le_refl _) hi]
  by_cases h : belI t.nodes a (i : Int) = true
  · rw [if_pos ⟨hi, h⟩, if_pos h]
  · rw [if_neg (fun q => h q.2), if_neg h]
theorem rt_of_idx {t : TreeS} {r : Root} {b : Nat} (h : idxOf t.nodes r = some b) : rtA t.nodes b = r := by
  obtain ⟨n, h1, h2⟩ := idxOf_some h
  unfold rtA; rw [h1]; exact h2
theorem idx_prT {t : TreeS} (hw : t.WF) {a b : Nat} {r : Root} (hib : idxOf t.nodes r = some b) (hab : belI t.nodes a (b : Int) = true) : idxOf (prT t a).nodes r = some (rk t.nodes a b) := by
  have hb := idxOf_lt hib
  rw [← rt_of_idx hib]
  show idxOf (prN t.nodes a t.nodes.length) _ = _
  rw [idx_prN hw (Nat.le_refl _) hb, if_pos ⟨hb, hab⟩]
theorem below_idx {t : TreeS} (hw : t.WF) {a : Nat} {o r : Root} (hia : idxOf t.nodes o = some a) (h : t.below o r = true) : ∃ b, idxOf t.nodes r = some b ∧ b < t.nodes.length ∧ belI t.nodes a (b : Int) = true := by
  obtain ⟨a1, b, e1, e2, hup⟩ := (TreeS.below_iff hw o r).1 h
  rw [hia] at e1
  obtain rfl : a = a1 := Option.some.inj e1
  exact ⟨b, e2, idxOf_lt e2, (belI_iff hw.pa b (idxOf_lt e2)).2 hup⟩
theorem below_rt {t : TreeS} (hw : t.WF) {a i : Nat} {o : Root} (hia : idxOf t.nodes o = some a) (hi : i < t.nodes.length) : t.below o (rtA t.nodes i) = belI t.nodes a (i : Int) := by
  rw [← rt_of_idx hia]; exact below_at hw (idxOf_lt hia) hi
theorem bestR_pr {t : TreeS} (hw : t.WF) {a i : Nat} {o : List Int} (ha : a < t.nodes.length) (hl : o.length = t.nodes.length) (hi : i < t.nodes.length) (hb : belI t.nodes a (i : Int) = true) : bestR (prT t a) (prO t.nodes a o) (rtA t.nodes i) = bestR t o (rtA t.nodes i) := by
  have hw2 := prT_wf hw ha
  have hn := prT_len t a
  have e1 : rtA (prT t a).nodes (rk t.nodes a i) = rtA t.nodes i := rt_pr hi hb
  have hki := rk_lt hi hb
  have h1 := bestR_at hw2 (o := prO t.nodes a o) (i := rk t.nodes a i) (by omega) (by rw [prO_len]; exact hki)
  rw [e1] at h1
  have h2 := best_pr hw ha (sumPr_at hw ha hl) hi hb
  rw [h1, bestR_at hw hi (by omega), prO_len, h2, hl]
  rcases bestN_rg hw.nd hw.pa (oA (sumL t.nodes o)) (Nat.le_refl _) i with h | ⟨k, h, h3, h4, h5⟩
  · rw [h]; unfold mvI; rfl
  · have hai := belI_le hb
    have hkb : belI t.nodes a (k : Int) = true := by rw [belI_pr hw.pa h4 (by omega), h5]; exact hb
    rw [h]
    unfold mvI
    rw [if_neg (show ¬ ((k : Int) < 0) by omega), if_neg (show ¬ (((rk t.nodes a (k : Int).toNat : Nat) : Int) < 0) by omega), if_neg (show ¬ ((k : Int) < 0) by omega), Int.toNat_natCast, Int.toNat_natCast]
    rw [show rtA (prT t a).nodes (rk t.nodes a k) = rtA t.nodes k from rt_pr h4 hkb]
theorem weight_pr {t : TreeS} (hw : t.WF) {a i : Nat} {o : List Int} (ha : a < t.nodes.length) (hl : o.length = t.nodes.length) (hi : i < t.nodes.length) (hb : belI t.nodes a (i : Int) = true) : ofF (prT t a) (prO t.nodes a o).length (sumN (prT t a).nodes (prO t.nodes a o)) (rtA t.nodes i) = ofF t o.length (sumN t.nodes o) (rtA t.nodes i) := by
  have hw2 := prT_wf hw ha
  have hn := prT_len t a
  have e1 : rtA (prT t a).nodes (rk t.nodes a i) = rtA t.nodes i := rt_pr hi hb
  have hki := rk_lt hi hb
  rw [← e1, ofF_rt hw2 (by omega) (by rw [prO_len]; exact hki), e1, ofF_rt hw hi (by omega)]
  exact sum_pr hw.pa (by omega) hi hb
theorem leaf_lt {t : TreeS} (hw : t.WF) {o : List Int} (hl : o.length = t.nodes.length) : leafN t.nodes (oA (sumL t.nodes o)) o.length 0 < t.nodes.length := by
  rw [hl]; exact leafN_lt hw.nd hw.pa (Nat.le_refl _) hw.ne
theorem keep_head {t : TreeS} (hw : t.WF) {a : Nat} {o : List Int} (ha : a < t.nodes.length) (hl : o.length = t.nodes.length) (hb : belI t.nodes a ((leafN t.nodes (oA (sumL t.nodes o)) o.length 0 : Nat) : Int) = true) : headW (prT t a).nodes (prO t.nodes a o) = headW t.nodes o := by
  rw [head_pr hw ha hl]
  unfold headW
  rw [hl] at hb ⊢
  rw [leaf_same hw ha _ 0 rfl hw.ne (belI_zero hw.pa ha) hb]
theorem idx_head {t : TreeS} (hw : t.WF) {o : List Int} (hl : o.length = t.nodes.length) : idxOf t.nodes (headW t.nodes o) = some (leafN t.nodes (oA (sumL t.nodes o)) o.length 0) := idx_rt hw (leaf_lt hw hl)
theorem leaf_one {t : TreeS} (hw : t.WF) {o : List Int} (hl : o.length = t.nodes.length) : (prT t (leafN t.nodes (oA (sumL t.nodes o)) o.length 0)).nodes.length = 1 := by
  have h1 := leaf_best hw (S := oA (sumL t.nodes o)) _ 0 rfl hw.ne
  have h2 := leaf_lt hw hl
  rw [hl] at h2 ⊢
  rw [prT_len]
  unfold rk
  rw [sel_alone hw h2 h1]; rfl
theorem prO_le {t : TreeS} (a : Nat) (o : List Int) : (prO t.nodes a o).length ≤ (prT t a).nodes.length := by rw [prO_len, prT_len]; exact Nat.le_refl _
theorem prO_pos {t : TreeS} {a : Nat} (ha : a < t.nodes.length) (o : List Int) : 0 < (prO t.nodes a o).length := by rw [prO_len]; have := rk_lt (ns := t.nodes) ha belI_eq; omega
def alM : List PBlk := [⟨1, 0, 1, 5⟩, ⟨2, 0, 1, 3⟩, ⟨3, 1, 2, 4⟩]
theorem alM_in : ¬ (60 < alM.length ∨ ∃ b ∈ alM, inM b = false) := by decide
theorem alM_1 : idxOf (runM alM).1.nodes (nameR 1) = some 1 := by decide +kernel
theorem alM_2 : (prT (runM alM).1 1).nodes.length = 2 := by decide +kernel
theorem alM_3 : ofF (prT (runM alM).1 1) (prO (runM alM).1.nodes 1 (ownM alM)).length (sumN (prT (runM alM).1 1).nodes (prO (runM alM).1.nodes 1 (ownM alM))) (nameR 1) = 9 := by decide +kernel
theorem alM_4 : headW (prT (runM alM).1 1).nodes (prO (runM alM).1.nodes 1 (ownM alM)) = nameR 3 := by decide +kernel
end Go.SL
