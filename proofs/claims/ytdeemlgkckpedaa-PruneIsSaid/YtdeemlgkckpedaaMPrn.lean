import Derived.Test.YtdeemlgkckpedaaMWei4
import Derived.Test.YtdeemlgkckpedaaX10
import Derived.Test.YtdeemlgkckpedaaX11
set_option linter.unusedVariables false
set_option linter.unusedSimpArgs false
namespace Go.SL
/-! ### What is left below a block, in plain Lean -/
def slA (ns : List Node) (i : Nat) : Int := ((ns[i]?).getD nodeNo).slot
theorem slA_get {ns : List Node} {i : Nat} (h : i < ns.length) : slA ns i = ns[i].slot := by simp [slA, h]
/-- those of the first m that stand below a -/
def selI (ns : List Node) (a m : Nat) : List Nat := (List.range m).filter fun i : Nat => belI ns a (i : Int)
def rk (ns : List Node) (a j : Nat) : Nat := (selI ns a j).length
def pnode (ns : List Node) (a i : Nat) : Node := ⟨rtA ns i, slA ns i, if i = a then -1 else ((rk ns a (prA ns i).toNat : Nat) : Int)⟩
def prN (ns : List Node) (a m : Nat) : List Node := (selI ns a m).map (pnode ns a)
def prT (t : TreeS) (a : Nat) : TreeS := ⟨prN t.nodes a t.nodes.length, t.most⟩
def prO (ns : List Node) (a : Nat) (o : List Int) : List Int := (selI ns a ns.length).map (oA o)
section
variable {ns : List Node} {a m i j k x y : Nat}
theorem selI_succ (ns : List Node) (a m : Nat) : selI ns a (m + 1) = if belI ns a (m : Int) = true then selI ns a m ++ [m] else selI ns a m := by
  unfold selI
  rw [List.range_succ, List.filter_append]
  by_cases h : belI ns a (m : Int) = true
  · rw [if_pos h]; simp [List.filter_cons, h]
  · rw [if_neg h]; simp [List.filter_cons, h]
theorem mem_selI : i ∈ selI ns a m ↔ i < m ∧ belI ns a (i : Int) = true := by simp [selI]
theorem selI_low (h : m ≤ a) : selI ns a m = [] := by
  unfold selI
  rw [List.filter_eq_nil_iff]
  intro i hi
  rw [List.mem_range] at hi
  rw [belI_lt (by omega)]; simp
theorem selI_first : selI ns a (a + 1) = [a] := by rw [selI_succ, selI_low (Nat.le_refl _), if_pos belI_eq]; rfl
theorem rk_self : rk ns a a = 0 := by unfold rk; rw [selI_low (Nat.le_refl _)]; rfl
theorem rk_succ (ns : List Node) (a m : Nat) : rk ns a (m + 1) = rk ns a m + if belI ns a (m : Int) = true then 1 else 0 := by
  unfold rk; rw [selI_succ]; split <;> simp
theorem rk_mono (h : i ≤ j) : rk ns a i ≤ rk ns a j := by
  induction j with
  | zero => rw [Nat.le_zero.1 h]; exact Nat.le_refl _
  | succ j ih =>
    rcases Nat.lt_or_ge i (j + 1) with h2 | h2
    · have := ih (by omega); rw [rk_succ]; omega
    · rw [show i = j + 1 by omega]; exact Nat.le_refl _
theorem rk_lt (h : i < j) (hb : belI ns a (i : Int) = true) : rk ns a i < rk ns a j := by
  have h1 := rk_succ ns a i
  rw [if_pos hb] at h1
  have := rk_mono (ns := ns) (a := a) (show i + 1 ≤ j by omega)
  omega
theorem rk_inj (hi : belI ns a (i : Int) = true) (hj : belI ns a (j : Int) = true) (h : rk ns a i = rk ns a j) : i = j := by
  rcases Nat.lt_trichotomy i j with h2 | h2 | h2
  · have := rk_lt h2 hi; omega
  · exact h2
  · have := rk_lt h2 hj; omega
theorem rk_le (ns : List Node) (a m : Nat) : rk ns a m ≤ m := by
  unfold rk selI; have := List.length_filter_le (fun i : Nat => belI ns a (i : Int)) (List.range m); simpa using this
theorem rk_lt_of (hi : i < m) (h : belI ns a (i : Int) = false) : rk ns a m < m := by
  induction m with
  | zero => omega
  | succ m ih =>
    rw [rk_succ]
    rcases Nat.lt_or_ge i m with h2 | h2
    · have := ih h2; split <;> omega
    · rw [show m = i by omega, if_neg (by rw [h]; simp)]; have := rk_le ns a i; omega
theorem selI_nodup : (selI ns a m).Nodup := List.nodup_range.filter _
theorem selI_rk : ∀ {m i : Nat}, i < m → belI ns a (i : Int) = true → (selI ns a m)[rk ns a i]? = some i
  | 0, _, h, _ => absurd h (Nat.not_lt_zero _)
  | m + 1, i, h, hb => by
    rw [selI_succ]
    rcases Nat.lt_or_ge i m with h2 | h2
    · have h3 := selI_rk h2 hb
      have h4 := (List.getElem?_eq_some_iff.1 h3).1
      split
      · rw [List.getElem?_append_left h4]; exact h3
      · exact h3
    · have e : i = m := by omega
      subst e
      rw [if_pos hb]
      unfold rk
      rw [List.getElem?_append_right (Nat.le_refl _), Nat.sub_self]; rfl
theorem selI_at (h : k < rk ns a m) : ∃ i, (selI ns a m)[k]? = some i ∧ i < m ∧ belI ns a (i : Int) = true ∧ rk ns a i = k := by
  have hk : k < (selI ns a m).length := h
  obtain ⟨h1, h2⟩ := mem_selI.1 (List.getElem_mem hk)
  have h3 := selI_rk h1 h2
  refine ⟨(selI ns a m)[k], List.getElem?_eq_getElem hk, h1, h2, ?_⟩
  exact nodup_get selI_nodup h3 (List.getElem?_eq_getElem hk)
theorem prN_len (ns : List Node) (a m : Nat) : (prN ns a m).length = rk ns a m := by simp [prN, rk]
theorem prN_succ (ns : List Node) (a m : Nat) : prN ns a (m + 1) = if belI ns a (m : Int) = true then prN ns a m ++ [pnode ns a m] else prN ns a m := by
  unfold prN; rw [selI_succ]; split <;> simp
theorem prN_rk (hi : i < m) (hb : belI ns a (i : Int) = true) : (prN ns a m)[rk ns a i]? = some (pnode ns a i) := by
  unfold prN; rw [List.getElem?_map, selI_rk hi hb]; rfl
theorem rt_pr (hi : i < m) (hb : belI ns a (i : Int) = true) : rtA (prN ns a m) (rk ns a i) = rtA ns i := by unfold rtA; rw [prN_rk hi hb]; rfl
theorem sl_pr (hi : i < m) (hb : belI ns a (i : Int) = true) : slA (prN ns a m) (rk ns a i) = slA ns i := by unfold slA; rw [prN_rk hi hb]; rfl
theorem pr_pr (hi : i < m) (hb : belI ns a (i : Int) = true) : prA (prN ns a m) (rk ns a i) = if i = a then -1 else ((rk ns a (prA ns i).toNat : Nat) : Int) := by unfold prA; rw [prN_rk hi hb]; rfl
theorem prN_first (ns : List Node) (a : Nat) : prN ns a (a + 1) = [⟨rtA ns a, slA ns a, -1⟩] := by unfold prN pnode; rw [selI_first]; simp
theorem belI_up1 (hp : Par ns) (hi : i < ns.length) (hb : belI ns a (i : Int) = true) (hne : i ≠ a) : ∃ j : Nat, prA ns i = j ∧ j < i ∧ belI ns a (j : Int) = true ∧ slA ns j < slA ns i := by
  have h1 := belI_pr hp hi hne
  rcases hp.rg hi with ⟨_, h⟩ | ⟨j, h, h2⟩
  · rw [h1, h, belI_neg (by omega)] at hb; cases hb
  · refine ⟨j, h, h2, by rw [h1, h] at hb; exact hb, ?_⟩
    rcases hp i ns[i] (List.getElem?_eq_getElem hi) with ⟨_, h3⟩ | ⟨j', n, h3, h4, h5, h6⟩
    · rw [prA_get hi] at h; omega
    · rw [prA_get hi] at h
      obtain rfl : j' = j := by omega
      rw [slA_get hi]; unfold slA; rw [h5]; exact h6
theorem belI_le (hb : belI ns a (i : Int) = true) : a ≤ i := by
  rcases Nat.lt_or_ge i a with h | h
  · rw [belI_lt (by omega)] at hb; cases hb
  · exact h
theorem idx_prN {t : TreeS} (hw : t.WF) (hm : m ≤ t.nodes.length) (hi : i < t.nodes.length) : idxOf (prN t.nodes a m) (rtA t.nodes i) = if i < m ∧ belI t.nodes a (i : Int) = true then some (rk t.nodes a i) else none := by
  have hnd : ((prN t.nodes a m).map (·.root)).Nodup := by
    have e : (prN t.nodes a m).map (·.root) = (selI t.nodes a m).map (rtA t.nodes) := by unfold prN; rw [List.map_map]; rfl
    rw [e]
    refine List.pairwise_map.2 (List.Pairwise.imp_of_mem ?_ selI_nodup)
    intro x y hx hy hne h
    have h1 := (mem_selI.1 hx).1; have h2 := (mem_selI.1 hy).1
    exact hne (rtA_inj hw.nd (by omega) (by omega) h)
  by_cases h : i < m ∧ belI t.nodes a (i : Int) = true
  · rw [if_pos h]
    have := idxOf_get hnd (prN_rk h.1 h.2)
    exact this
  · rw [if_neg h, idxOf_none]
    intro n hn e
    obtain ⟨k, hk, rfl⟩ := List.mem_map.1 hn
    obtain ⟨h1, h2⟩ := mem_selI.1 hk
    have : k = i := rtA_inj hw.nd (by omega) hi e
    subst this
    exact h ⟨h1, h2⟩
theorem idx_prN_none {t : TreeS} {r : Root} (h : idxOf t.nodes r = none) (hm : m ≤ t.nodes.length) : idxOf (prN t.nodes a m) r = none := by
  rw [idxOf_none]
  intro n hn e
  obtain ⟨k, hk, rfl⟩ := List.mem_map.1 hn
  obtain ⟨h1, h2⟩ := mem_selI.1 hk
  have hk2 : k < t.nodes.length := by omega
  exact (idxOf_none.1 h) _ (List.getElem_mem hk2) (by rw [← rtA_get hk2]; exact e)
theorem prN_par (hp : Par ns) (hm : m ≤ ns.length) : Par (prN ns a m) := by
  intro k n hk
  have hk2 : k < rk ns a m := by have := (List.getElem?_eq_some_iff.1 hk).1; rwa [prN_len] at this
  obtain ⟨i, h1, h2, h3, h4⟩ := selI_at hk2
  have h5 := prN_rk h2 h3
  rw [h4, hk] at h5
  obtain rfl : n = pnode ns a i := Option.some.inj h5
  by_cases e : i = a
  · subst e
    exact .inl ⟨by rw [← h4]; exact rk_self, by unfold pnode; rw [if_pos rfl]⟩
  · obtain ⟨j, e1, e2, e3, e4⟩ := belI_up1 hp (show i < ns.length by omega) h3 e
    refine .inr ⟨rk ns a j, pnode ns a j, by unfold pnode; dsimp only; rw [if_neg e, e1]; rfl, by rw [← h4]; exact rk_lt e2 e3, prN_rk (by omega) e3, e4⟩
theorem prT_wf {t : TreeS} (hw : t.WF) (ha : a < t.nodes.length) : (prT t a).WF := by
  have hl : (prT t a).nodes.length = rk t.nodes a t.nodes.length := prN_len _ _ _
  have h1 := rk_le t.nodes a t.nodes.length
  have h2 := rk_lt (ns := t.nodes) ha belI_eq
  have h3 := hw.le
  refine ⟨?_, by omega, hw.m1, hw.m2, by show (_ : Int) ≤ t.most; omega, ?_, prN_par hw.pa (Nat.le_refl _)⟩
  · have e : (prN t.nodes a t.nodes.length).map (·.root) = (selI t.nodes a t.nodes.length).map (rtA t.nodes) := by unfold prN; rw [List.map_map]; rfl
    show ((prN t.nodes a t.nodes.length).map (·.root)).Nodup
    rw [e]
    refine List.pairwise_map.2 (List.Pairwise.imp_of_mem ?_ selI_nodup)
    intro x y hx hy hne h
    exact hne (rtA_inj hw.nd (mem_selI.1 hx).1 (mem_selI.1 hy).1 h)
  · intro n hn
    obtain ⟨k, hk, rfl⟩ := List.mem_map.1 hn
    have h4 := (mem_selI.1 hk).1
    have := hw.sl _ (List.getElem_mem h4)
    show 0 ≤ slA t.nodes k ∧ slA t.nodes k ≤ 1073741824
    rw [slA_get h4]; exact this
/-- a step of the pruning -/
theorem prT_step {t : TreeS} (hw : t.WF) (ham : a < m) (hm : m < t.nodes.length) {j : Nat} (hj : prA t.nodes m = j) : (⟨prN t.nodes a m, t.most⟩ : TreeS).place (rtA t.nodes j) = if belI t.nodes a (m : Int) = true then ((rk t.nodes a j : Nat) : Int) else -1 := by
  have hjm : j < m := by rcases hw.pa.rg hm with ⟨h, _⟩ | ⟨j', h, h2⟩ <;> omega
  have hb := belI_pr hw.pa hm (show m ≠ a by omega)
  rw [hj] at hb
  unfold TreeS.place
  dsimp only
  rw [idx_prN hw (by omega) (by omega), hb]
  by_cases h : belI t.nodes a (j : Int) = true
  · rw [if_pos ⟨hjm, h⟩, if_pos h]
  · rw [if_neg (fun q => h q.2), if_neg h]
theorem prT_add {t : TreeS} (hw : t.WF) (ham : a < m) (hm : m < t.nodes.length) {j : Nat} (hj : prA t.nodes m = j) (hb : belI t.nodes a (m : Int) = true) : (⟨prN t.nodes a m, t.most⟩ : TreeS).add (rtA t.nodes m) (rtA t.nodes j) (slA t.nodes m) = (0, ⟨prN t.nodes a (m + 1), t.most⟩) := by
  obtain ⟨j', e1, hjm, hbj, hs⟩ := belI_up1 hw.pa hm hb (show m ≠ a by omega)
  obtain rfl : j' = j := by omega
  have hle := hw.le
  have hlt : rk t.nodes a m < t.nodes.length := by have := rk_le t.nodes a m; omega
  have hsl := hw.sl _ (List.getElem_mem hm)
  have hsm := slA_get hm
  have hi1 : idxOf (prN t.nodes a m) (rtA t.nodes m) = none := by rw [idx_prN hw (by omega) hm, if_neg (fun q => absurd q.1 (Nat.lt_irrefl m))]
  have hi2 : idxOf (prN t.nodes a m) (rtA t.nodes j') = some (rk t.nodes a j') := by rw [idx_prN hw (by omega) (by omega), if_pos ⟨hjm, hbj⟩]
  have hg : (((prN t.nodes a m)[rk t.nodes a j']?).getD nodeNo).slot = slA t.nodes j' := sl_pr hjm hbj
  unfold TreeS.add
  dsimp only
  rw [hi1, if_neg (by simp), hi2]
  dsimp only
  rw [if_neg (by rw [hg]; omega), prN_len, if_neg (by omega), prN_succ, if_pos hb]
  simp only [pnode, if_neg (show m ≠ a by omega), e1, Int.toNat_natCast]
/-! what stands below what, what it weighs -/
theorem belI_pr2 (hp : Par ns) (hm : m ≤ ns.length) {x : Nat} (hxm : x < m) (hx : belI ns a (x : Int) = true) : ∀ y, y < m → belI ns a (y : Int) = true → belI (prN ns a m) (rk ns a x) ((rk ns a y : Nat) : Int) = belI ns x (y : Int) := by
  intro y
  induction y using Nat.strongRecOn with
  | _ y ih =>
    intro hym hy
    rcases Nat.lt_trichotomy y x with h | h | h
    · rw [belI_lt (show ((rk ns a y : Nat) : Int) < rk ns a x by have := rk_lt h hy; omega), belI_lt (by omega)]
    · subst h; rw [belI_eq, belI_eq]
    · have hax := belI_le hx
      obtain ⟨j, e1, e2, e3, _⟩ := belI_up1 hp (show y < ns.length by omega) hy (by omega)
      have h2 := rk_lt h hx
      have h3 := rk_lt hym hy
      rw [belI_pr (prN_par hp hm) (by rw [prN_len]; omega) (by omega), pr_pr hym hy, if_neg (by omega), e1, Int.toNat_natCast, ih j e2 (by omega) e3, belI_pr hp (show y < ns.length by omega) (by omega), e1]
theorem sg_sel (F : Nat → Int) : ∀ m, sg (fun k => F ((selI ns a m).getD k 0)) (rk ns a m) = sg (fun i => if belI ns a (i : Int) = true then F i else 0) m := by
  intro m
  induction m with
  | zero => unfold rk; rw [show selI ns a 0 = [] from rfl]; rfl
  | succ m ih =>
    rw [sg_succ, rk_succ]
    by_cases h : belI ns a (m : Int) = true
    · rw [if_pos h, if_pos h, sg_succ, ← ih]
      congr 1
      · refine sg_congr fun k hk => ?_
        have hk2 : k < (selI ns a m).length := hk
        rw [selI_succ, if_pos h, List.getD_eq_getElem?_getD, List.getD_eq_getElem?_getD, List.getElem?_append_left hk2]
      · rw [selI_succ, if_pos h]
        unfold rk
        rw [List.getD_eq_getElem?_getD, List.getElem?_append_right (Nat.le_refl _), Nat.sub_self]; rfl
    · rw [if_neg h, if_neg h, Int.add_zero, ← ih]
      rw [selI_succ, if_neg h]; rfl
theorem prO_len (ns : List Node) (a : Nat) (o : List Int) : (prO ns a o).length = rk ns a ns.length := by simp [prO, rk]
theorem prO_at {o : List Int} (hi : i < ns.length) (hb : belI ns a (i : Int) = true) : oA (prO ns a o) (rk ns a i) = oA o i := by
  unfold prO oA; rw [List.getD_eq_getElem?_getD, List.getElem?_map, selI_rk hi hb]; rfl
theorem sum_pr (hp : Par ns) {o : List Int} (hl : o.length ≤ ns.length) {x : Nat} (hxm : x < ns.length) (hx : belI ns a (x : Int) = true) : sumN (prN ns a ns.length) (prO ns a o) (rk ns a x) = sumN ns o x := by
  unfold sumN
  rw [prO_len]
  have h1 : sg (fun j => if belI (prN ns a ns.length) (rk ns a x) (j : Int) = true then oA (prO ns a o) j else 0) (rk ns a ns.length) = sg (fun k => (fun i : Nat => if belI ns x (i : Int) = true then oA o i else 0) ((selI ns a ns.length).getD k 0)) (rk ns a ns.length) := by
    refine sg_congr fun k hk => ?_
    obtain ⟨i, q1, q2, q3, q4⟩ := selI_at hk
    rw [List.getD_eq_getElem?_getD, q1, ← q4]
    dsimp only [Option.getD_some]
    rw [belI_pr2 hp (Nat.le_refl _) hxm hx i q2 q3, prO_at q2 q3]
  rw [h1, sg_sel (fun i : Nat => if belI ns x (i : Int) = true then oA o i else 0)]
  have h2 : sg (fun j => if belI ns x (j : Int) = true then oA o j else 0) ns.length = sg (fun j => if belI ns x (j : Int) = true then oA o j else 0) o.length := sg_ext hl fun j h3 _ => by rw [oA_out h3]; simp
  rw [← h2]
  refine sg_congr fun i hi => ?_
  by_cases h : belI ns a (i : Int) = true
  · rw [if_pos h]
  · rw [if_neg h, if_neg (fun q => h (belI_trans hp hxm hi hx q))]
theorem tot_pr {o : List Int} (hp : Par ns) (hl : o.length ≤ ns.length) (ha : a < ns.length) : tot (prO ns a o) = sumN ns o a := by
  rw [← sum_pr (a := a) hp hl ha belI_eq, rk_self]
  exact (sumN_first (prN_par hp (Nat.le_refl _)) (by rw [prO_len, prN_len]; exact Nat.le_refl _)).symm
theorem prO_ok (hp : Par ns) {o : List Int} (hl : o.length ≤ ns.length) (ha : a < ns.length) (h : OwnOK o) : OwnOK (prO ns a o) := by
  refine ⟨fun j => ?_, by rw [tot_pr hp hl ha]; have := sumN_tot (ns := ns) (a := a) h.nn; have := h.tt; omega⟩
  rcases Nat.lt_or_ge j (rk ns a ns.length) with hj | hj
  · obtain ⟨i, _, q2, q3, q4⟩ := selI_at hj
    rw [← q4, prO_at q2 q3]; exact h.nn i
  · rw [oA_out (by rw [prO_len]; exact hj)]; exact Int.le_refl _
end
end Go.SL
