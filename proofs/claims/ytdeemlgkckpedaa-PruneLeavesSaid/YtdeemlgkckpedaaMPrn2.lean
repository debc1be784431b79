import Derived.Test.YtdeemlgkckpedaaMPrn
set_option linter.unusedVariables false
set_option linter.unusedSimpArgs false
namespace Go.SL
/-! ### what is left: best children, leaves, twice, all, one -/
section
variable {ns : List Node} {a m i j k x y : Nat}
theorem kids_pr (hp : Par ns) {x : Nat} (hxm : x < ns.length) (hx : belI ns a (x : Int) = true) (k : Nat) : k ∈ kidsI (prN ns a ns.length) (rk ns a ns.length) (rk ns a x) ↔ ∃ y, y ∈ kidsI ns ns.length x ∧ rk ns a y = k := by
  constructor
  · intro h
    obtain ⟨h1, h2⟩ := mem_kidsI.1 h
    obtain ⟨y, _, q2, q3, q4⟩ := selI_at h1
    refine ⟨y, mem_kidsI.2 ⟨q2, ?_⟩, q4⟩
    rw [← q4, pr_pr q2 q3] at h2
    by_cases e : y = a
    · rw [if_pos e] at h2; omega
    · obtain ⟨j, e1, e2, e3, _⟩ := belI_up1 hp q2 q3 e
      rw [if_neg e, e1, Int.toNat_natCast] at h2
      rw [e1, rk_inj e3 hx (by omega)]
  · rintro ⟨y, hy, rfl⟩
    obtain ⟨h1, h2⟩ := mem_kidsI.1 hy
    have hxy := kidsI_gt hp (Nat.le_refl _) hy
    have hax := belI_le hx
    have hb : belI ns a (y : Int) = true := by rw [belI_pr hp h1 (by omega), h2]; exact hx
    exact mem_kidsI.2 ⟨rk_lt h1 hb, by rw [pr_pr h1 hb, if_neg (by omega), h2, Int.toNat_natCast]⟩
/-- an index, moved -/
def mvI (ns : List Node) (a : Nat) (b : Int) : Int := if b < 0 then -1 else ((rk ns a b.toNat : Nat) : Int)
theorem best_pr {t : TreeS} (hw : t.WF) (ha : a < t.nodes.length) {S S' : Nat → Int} (hS : ∀ y, y < t.nodes.length → belI t.nodes a (y : Int) = true → S' (rk t.nodes a y) = S y) {x : Nat} (hxm : x < t.nodes.length) (hx : belI t.nodes a (x : Int) = true) :
    bestN (prT t a).nodes S' (rk t.nodes a t.nodes.length) (rk t.nodes a x) = mvI t.nodes a (bestN t.nodes S t.nodes.length x) := by
  have hw2 := prT_wf hw ha
  have hl : (prT t a).nodes.length = rk t.nodes a t.nodes.length := prN_len _ _ _
  have h1 := bestN_is hw2.nd S' (Nat.le_of_eq hl.symm) (rk t.nodes a x)
  have h2 := bestN_is hw.nd S (Nat.le_refl _) x
  refine IsBest.eq h1 (l' := kidsI (prT t a).nodes (rk t.nodes a t.nodes.length) (rk t.nodes a x)) ?_ (fun _ => Iff.rfl)
  have hkb : ∀ y, y ∈ kidsI t.nodes t.nodes.length x → y < t.nodes.length ∧ belI t.nodes a (y : Int) = true := fun y hy => by
    obtain ⟨q1, q2⟩ := mem_kidsI.1 hy
    have hxy := kidsI_gt hw.pa (Nat.le_refl _) hy
    have hax := belI_le hx
    exact ⟨q1, by rw [belI_pr hw.pa q1 (by omega), q2]; exact hx⟩
  rcases h2 with ⟨e1, e2⟩ | ⟨y, e1, e2, e3⟩
  · refine .inl ⟨?_, by rw [e2]; rfl⟩
    rw [List.eq_nil_iff_forall_not_mem]
    intro k hk
    obtain ⟨y, hy, _⟩ := (kids_pr hw.pa hxm hx k).1 hk
    rw [e1] at hy; cases hy
  · refine .inr ⟨rk t.nodes a y, by rw [e1]; unfold mvI; rw [if_neg (by omega), Int.toNat_natCast], (kids_pr hw.pa hxm hx _).2 ⟨y, e2, rfl⟩, ?_⟩
    intro j hj hne
    obtain ⟨z, hz, rfl⟩ := (kids_pr hw.pa hxm hx j).1 hj
    have hb := e3 z hz (fun q => hne (by rw [q]))
    obtain ⟨y1, y2⟩ := hkb y e2
    obtain ⟨z1, z2⟩ := hkb z hz
    rw [← hb]
    have e5 : ∀ q, q < t.nodes.length → belI t.nodes a (q : Int) = true → rtA (prT t a).nodes (rk t.nodes a q) = rtA t.nodes q := fun q h1 h2 => rt_pr h1 h2
    unfold beats
    rw [hS y y1 y2, hS z z1 z2, e5 y y1 y2, e5 z z1 z2]
theorem leaf_pr {t : TreeS} (hw : t.WF) (ha : a < t.nodes.length) {S S' : Nat → Int} (hS : ∀ y, y < t.nodes.length → belI t.nodes a (y : Int) = true → S' (rk t.nodes a y) = S y) : ∀ d x, t.nodes.length - x = d → x < t.nodes.length → belI t.nodes a (x : Int) = true →
    leafN (prT t a).nodes S' (rk t.nodes a t.nodes.length) (rk t.nodes a x) = rk t.nodes a (leafN t.nodes S t.nodes.length x) ∧ belI t.nodes a ((leafN t.nodes S t.nodes.length x : Nat) : Int) = true := by
  intro d
  have hw2 := prT_wf hw ha
  have hl : (prT t a).nodes.length = rk t.nodes a t.nodes.length := prN_len _ _ _
  induction d using Nat.strongRecOn with
  | _ d ih =>
    intro x hd hxm hx
    have hb := best_pr hw ha hS hxm hx
    rcases bestN_rg hw.nd hw.pa S (Nat.le_refl _) x with h | ⟨k, h, h1, h2, h3⟩
    · rw [h] at hb
      rw [leafN_no _ (by rw [hb]; unfold mvI; rw [if_pos (by decide)]; decide), leafN_no _ (by omega)]
      exact ⟨rfl, hx⟩
    · have hax := belI_le hx
      have hkb : belI t.nodes a (k : Int) = true := by rw [belI_pr hw.pa h2 (by omega), h3]; exact hx
      rw [h] at hb
      have hb2 : bestN (prT t a).nodes S' (rk t.nodes a t.nodes.length) (rk t.nodes a x) = ((rk t.nodes a k : Nat) : Int) := by rw [hb]; unfold mvI; rw [if_neg (by omega), Int.toNat_natCast]
      rw [leafN_yes hw2.nd hw2.pa (Nat.le_of_eq hl.symm) hb2, leafN_yes hw.nd hw.pa (Nat.le_refl _) h]
      exact ih (t.nodes.length - k) (by omega) k rfl h2 hkb
theorem sumPr_at {t : TreeS} (hw : t.WF) (ha : a < t.nodes.length) {o : List Int} (hl : o.length = t.nodes.length) : ∀ y, y < t.nodes.length → belI t.nodes a (y : Int) = true → oA (sumL (prT t a).nodes (prO t.nodes a o)) (rk t.nodes a y) = oA (sumL t.nodes o) y := fun y hy hb => by
  rw [sumL_at (by rw [prO_len]; exact rk_lt hy hb), sumL_at (by omega)]
  exact sum_pr hw.pa (by omega) hy hb
/-- the head, of what is left -/
theorem head_pr {t : TreeS} (hw : t.WF) (ha : a < t.nodes.length) {o : List Int} (hl : o.length = t.nodes.length) : headW (prT t a).nodes (prO t.nodes a o) = rtA t.nodes (leafN t.nodes (oA (sumL t.nodes o)) o.length a) := by
  obtain ⟨h1, h2⟩ := leaf_pr hw ha (sumPr_at hw ha hl) _ a rfl ha belI_eq
  have h3 := leafN_lt (S := oA (sumL t.nodes o)) hw.nd hw.pa (Nat.le_refl _) ha
  unfold headW
  rw [prO_len, ← rk_self (ns := t.nodes) (a := a), h1, hl]
  exact rt_pr h3 h2
theorem leaf_below {t : TreeS} (hw : t.WF) {S : Nat → Int} : ∀ d x, t.nodes.length - x = d → x < t.nodes.length → belI t.nodes x ((leafN t.nodes S t.nodes.length x : Nat) : Int) = true := by
  intro d
  induction d using Nat.strongRecOn with
  | _ d ih =>
    intro x hd hxm
    rcases bestN_rg hw.nd hw.pa S (Nat.le_refl _) x with h | ⟨k, h, h1, h2, h3⟩
    · rw [leafN_no _ (by omega)]; exact belI_eq
    · rw [leafN_yes hw.nd hw.pa (Nat.le_refl _) h]
      have h4 := ih (t.nodes.length - k) (by omega) k rfl h2
      have h5 := leafN_lt (S := S) hw.nd hw.pa (Nat.le_refl _) h2
      refine belI_trans hw.pa h2 h5 ?_ h4
      rw [belI_pr hw.pa h2 (by omega), h3]; exact belI_eq
/-- what is above one is one row -/
theorem bel_line (hp : Par ns) {x y : Nat} : ∀ z, z < ns.length → belI ns x (z : Int) = true → belI ns y (z : Int) = true → x ≤ y → belI ns x (y : Int) = true := by
  intro z
  induction z using Nat.strongRecOn with
  | _ z ih =>
    intro hz h1 h2 hxy
    by_cases e : z = y
    · rw [← e]; exact h1
    · have hyz := belI_le h2
      obtain ⟨j, e1, e2, e3, _⟩ := belI_up1 hp hz h2 e
      have h4 := belI_pr hp (a := x) hz (by omega)
      rw [h1, e1] at h4
      exact ih j e2 (by omega) h4.symm e3 hxy
/-- if the leaf stands below it, so do all from there on -/
theorem leaf_same {t : TreeS} (hw : t.WF) {S : Nat → Int} (ha : a < t.nodes.length) : ∀ d x, t.nodes.length - x = d → x < t.nodes.length → belI t.nodes x (a : Int) = true → belI t.nodes a ((leafN t.nodes S t.nodes.length x : Nat) : Int) = true → leafN t.nodes S t.nodes.length a = leafN t.nodes S t.nodes.length x := by
  intro d
  induction d using Nat.strongRecOn with
  | _ d ih =>
    intro x hd hxm hxa hal
    by_cases e : x = a
    · rw [e]
    · have hx1 := belI_le hxa
      rcases bestN_rg hw.nd hw.pa S (Nat.le_refl _) x with h | ⟨k, h, h1, h2, h3⟩
      · rw [leafN_no _ (by omega)] at hal
        have := belI_le hal; omega
      · rw [leafN_yes hw.nd hw.pa (Nat.le_refl _) h] at hal ⊢
        have h5 := leafN_lt (S := S) hw.nd hw.pa (Nat.le_refl _) h2
        have h6 := leaf_below hw (S := S) _ k rfl h2
        refine ih (t.nodes.length - k) (by omega) k rfl h2 ?_ hal
        rcases Nat.le_total k a with h7 | h7
        · exact bel_line hw.pa _ h5 h6 hal h7
        · by_cases e2 : a = k
          · rw [e2]; exact belI_eq
          · have h8 := bel_line hw.pa _ h5 hal h6 h7
            rw [belI_pr hw.pa h2 (by omega), h3] at h8
            have := belI_le h8; omega
theorem leaf_best {t : TreeS} (hw : t.WF) {S : Nat → Int} : ∀ d x, t.nodes.length - x = d → x < t.nodes.length → bestN t.nodes S t.nodes.length (leafN t.nodes S t.nodes.length x) < 0 := by
  intro d
  induction d using Nat.strongRecOn with
  | _ d ih =>
    intro x hd hxm
    rcases bestN_rg hw.nd hw.pa S (Nat.le_refl _) x with h | ⟨k, h, h1, h2, h3⟩
    · rw [leafN_no _ (by omega)]; omega
    · rw [leafN_yes hw.nd hw.pa (Nat.le_refl _) h]
      exact ih (t.nodes.length - k) (by omega) k rfl h2
/-- below a leaf there is nothing else -/
theorem leaf_alone {t : TreeS} (hw : t.WF) {S : Nat → Int} {x : Nat} (hx : x < t.nodes.length) (h : bestN t.nodes S t.nodes.length x < 0) : ∀ i, i < t.nodes.length → belI t.nodes x (i : Int) = true → i = x := by
  have hk : ∀ k, k ∉ kidsI t.nodes t.nodes.length x := by
    rcases bestN_is hw.nd S (Nat.le_refl _) x with ⟨e, _⟩ | ⟨k, e, _⟩
    · intro k; rw [e]; exact List.not_mem_nil
    · omega
  intro i
  induction i using Nat.strongRecOn with
  | _ i ih =>
    intro hi hb
    by_cases e : i = x
    · exact e
    · obtain ⟨j, e1, e2, e3, _⟩ := belI_up1 hw.pa hi hb e
      have := ih j e2 (by omega) e3
      subst this
      exact absurd (mem_kidsI.2 ⟨hi, e1⟩) (hk i)
theorem sel_alone {t : TreeS} (hw : t.WF) {S : Nat → Int} {x : Nat} (hx : x < t.nodes.length) (h : bestN t.nodes S t.nodes.length x < 0) : selI t.nodes x t.nodes.length = [x] := by
  have key : ∀ m, x < m → m ≤ t.nodes.length → selI t.nodes x m = [x] := by
    intro m
    induction m with
    | zero => omega
    | succ m ih =>
      intro h1 h2
      rw [selI_succ]
      by_cases e : m = x
      · subst e; rw [if_pos belI_eq, selI_low (Nat.le_refl _)]; rfl
      · rw [if_neg (fun q => e (leaf_alone hw hx h m (by omega) q))]; exact ih (by omega) (by omega)
  exact key _ hx (Nat.le_refl _)
/-! twice -/
theorem sel_twice (hp : Par ns) {b : Nat} (hb : b < ns.length) (hab : belI ns a (b : Int) = true) : ∀ m, m ≤ ns.length → selI (prN ns a ns.length) (rk ns a b) (rk ns a m) = (selI ns b m).map (rk ns a) := by
  intro m
  induction m with
  | zero => intro _; rfl
  | succ m ih =>
    intro hm
    rw [rk_succ]
    by_cases h : belI ns a (m : Int) = true
    · rw [if_pos h, selI_succ, selI_succ, ih (by omega), belI_pr2 hp (Nat.le_refl _) hb hab m (by omega) h]
      split <;> simp
    · rw [if_neg h, Nat.add_zero, ih (by omega), selI_succ, if_neg (fun q => h (belI_trans hp hb (by omega) hab q))]
theorem rk_twice (hp : Par ns) {b : Nat} (hb : b < ns.length) (hab : belI ns a (b : Int) = true) {m : Nat} (hm : m ≤ ns.length) : rk (prN ns a ns.length) (rk ns a b) (rk ns a m) = rk ns b m := by
  have := sel_twice hp hb hab m hm
  unfold rk at this ⊢
  rw [this, List.length_map]
theorem prN_twice (hp : Par ns) {b : Nat} (hb : b < ns.length) (hab : belI ns a (b : Int) = true) : prN (prN ns a ns.length) (rk ns a b) (prN ns a ns.length).length = prN ns b ns.length := by
  rw [prN_len]
  unfold prN
  have h1 := sel_twice hp hb hab ns.length (Nat.le_refl _)
  unfold prN at h1
  rw [h1, List.map_map]
  refine List.map_congr_left fun i hi => ?_
  obtain ⟨h2, h3⟩ := mem_selI.1 hi
  have h4 := belI_trans hp hb h2 hab h3
  show pnode (prN ns a ns.length) (rk ns a b) (rk ns a i) = pnode ns b i
  unfold pnode
  rw [rt_pr h2 h4, sl_pr h2 h4, pr_pr h2 h4]
  by_cases e : i = b
  · subst e; rw [if_pos rfl, if_pos rfl]
  · have hba := belI_le hab
    have hbi := belI_le h3
    obtain ⟨j, e1, e2, e3, _⟩ := belI_up1 hp h2 h3 e
    rw [if_neg (fun q => e (rk_inj h4 hab q)), if_neg e, if_neg (show i ≠ a by omega), e1, Int.toNat_natCast, Int.toNat_natCast, rk_twice hp hb hab (by omega)]
theorem prT_twice {t : TreeS} (hw : t.WF) {b : Nat} (hb : b < t.nodes.length) (hab : belI t.nodes a (b : Int) = true) : prT (prT t a) (rk t.nodes a b) = prT t b := by
  unfold prT
  dsimp only
  rw [prN_twice hw.pa hb hab]
theorem prO_twice {t : TreeS} (hw : t.WF) {b : Nat} (hb : b < t.nodes.length) (hab : belI t.nodes a (b : Int) = true) (o : List Int) : prO (prT t a).nodes (rk t.nodes a b) (prO t.nodes a o) = prO t.nodes b o := by
  unfold prT
  show (selI (prN t.nodes a t.nodes.length) (rk t.nodes a b) (prN t.nodes a t.nodes.length).length).map _ = (selI t.nodes b t.nodes.length).map _
  rw [prN_len, sel_twice hw.pa hb hab _ (Nat.le_refl _), List.map_map]
  refine List.map_congr_left fun i hi => ?_
  obtain ⟨h2, h3⟩ := mem_selI.1 hi
  exact prO_at h2 (belI_trans hw.pa hb h2 hab h3)
/-! all -/
theorem sel_all (hp : Par ns) : ∀ m, m ≤ ns.length → selI ns 0 m = List.range m := by
  intro m
  induction m with
  | zero => intro _; rfl
  | succ m ih => intro hm; rw [selI_succ, if_pos (belI_zero hp (by omega)), ih (by omega), List.range_succ]
theorem rk_all (hp : Par ns) {m : Nat} (hm : m ≤ ns.length) : rk ns 0 m = m := by unfold rk; rw [sel_all hp m hm, List.length_range]
theorem prN_all (hp : Par ns) : prN ns 0 ns.length = ns := by
  apply List.ext_getElem
  · rw [prN_len, rk_all hp (Nat.le_refl _)]
  · intro i h1 h2
    have h3 := prN_rk (m := ns.length) h2 (belI_zero hp h2)
    rw [rk_all hp (by omega)] at h3
    rw [(List.getElem?_eq_some_iff.1 h3).2]
    unfold pnode
    rw [rtA_get h2, slA_get h2]
    by_cases e0 : i = 0
    · subst e0
      rcases hp.rg h2 with ⟨_, h⟩ | ⟨j, h, h3⟩
      · rw [prA_get h2] at h; rw [if_pos rfl, ← h]
      · omega
    · rcases hp.rg h2 with ⟨h, _⟩ | ⟨j, h, h3⟩
      · exact absurd h e0
      · rw [if_neg e0, h, Int.toNat_natCast, rk_all hp (by omega), ← h, prA_get h2]
theorem prT_all {t : TreeS} (hw : t.WF) : prT t 0 = t := by unfold prT; rw [prN_all hw.pa]
theorem prO_all {t : TreeS} (hw : t.WF) {o : List Int} (hl : o.length = t.nodes.length) : prO t.nodes 0 o = o := by
  unfold prO
  rw [sel_all hw.pa _ (Nat.le_refl _), ← hl]
  exact tab_self o
/-! the document's rows -/
def prR (ns : List Node) (a m : Nat) : List Root := (selI ns a m).map (rtA ns)
def prS (ns : List Node) (a m : Nat) : List Int := (selI ns a m).map (slA ns)
def upR (ns : List Node) (a i : Nat) : Root := if i = a then Root.zero else (parR ns).getD i Root.zero
def prP (ns : List Node) (a m : Nat) : List Root := (selI ns a m).map (upR ns a)
def prOm (ns : List Node) (a m : Nat) (o : List Int) : List Int := (selI ns a m).map (oA o)
theorem pr_ref {t : TreeS} (hw : t.WF) (a : Nat) : RTreeOf (prT t a) (prR t.nodes a t.nodes.length) (prS t.nodes a t.nodes.length) (prP t.nodes a t.nodes.length) := by
  refine ⟨?_, ?_, ?_⟩
  · unfold prR prT prN; dsimp only; rw [List.map_map]; rfl
  · unfold prS prT prN; dsimp only; rw [List.map_map]; rfl
  · unfold prP parR
    show _ = (prN t.nodes a t.nodes.length).map _
    unfold prN
    rw [List.map_map]
    refine List.map_congr_left fun i hi => ?_
    obtain ⟨h1, h2⟩ := mem_selI.1 hi
    show upR t.nodes a i = if 0 ≤ (pnode t.nodes a i).parent then _ else _
    unfold upR
    by_cases e : i = a
    · rw [if_pos e]; unfold pnode; dsimp only; rw [if_pos e, if_neg (by decide)]
    · obtain ⟨j, e1, e2, e3, _⟩ := belI_up1 hw.pa h1 h2 e
      have e4 := rt_pr (m := t.nodes.length) (show j < t.nodes.length by omega) e3
      rw [if_neg e]
      unfold pnode; dsimp only; rw [if_neg e, if_pos (by omega), e1, Int.toNat_natCast, Int.toNat_natCast]
      refine Eq.trans ?_ e4.symm
      have e5 : t.nodes[i].parent = j := by rw [← prA_get h1]; exact e1
      unfold parR
      rw [List.getD_eq_getElem?_getD, List.getElem?_map, List.getElem?_eq_getElem h1]
      show (if 0 ≤ t.nodes[i].parent then _ else _) = _
      rw [e5, if_pos (by omega), Int.toNat_natCast]; rfl
/-! the deltas -/
theorem pr_deltas {t : TreeS} (hw : t.WF) (ha : a < t.nodes.length) {o : List Int} (hl : o.length ≤ t.nodes.length) (h : OwnOK o) :
    applyO (prT t a).nodes (growO (prT t a).nodes.length []) ((selI t.nodes a t.nodes.length).map fun i => (⟨rtA t.nodes i, oA o i⟩ : Delta)) = (0, prO t.nodes a o) := by
  have hw2 := prT_wf hw ha
  have hn : (prT t a).nodes.length = rk t.nodes a t.nodes.length := prN_len _ _ _
  have hg : (growO (prT t a).nodes.length []).length = (prT t a).nodes.length := growO_len (Nat.zero_le _)
  have hz : ∀ j, oA (growO (prT t a).nodes.length []) j = 0 := fun j => by rw [grow_oA]; rfl
  have e1 : ((selI t.nodes a t.nodes.length).map fun i => (⟨rtA t.nodes i, oA o i⟩ : Delta)) = ((selI t.nodes a t.nodes.length).map fun i => (rk t.nodes a i, oA o i)).map (toD (prT t a).nodes) := by
    rw [List.map_map]
    refine List.map_congr_left fun i hi => ?_
    obtain ⟨h1, h2⟩ := mem_selI.1 hi
    show (⟨rtA t.nodes i, oA o i⟩ : Delta) = toD (prT t a).nodes (rk t.nodes a i, oA o i)
    unfold toD
    rw [show rtA (prT t a).nodes (rk t.nodes a i) = rtA t.nodes i from rt_pr h1 h2]
  have hps : ∀ (l : List Nat), psum (l.map fun i => (rk t.nodes a i, oA o i)) = (l.map (oA o)).sum := fun l => by unfold psum; rw [List.map_map]; rfl
  have hto : tot (growO (prT t a).nodes.length []) = 0 := sg_zero fun j _ => hz j
  have hsum : ((selI t.nodes a t.nodes.length).map (oA o)).sum = sumN t.nodes o a := by
    have k2 : ∀ m, ((selI t.nodes a m).map (oA o)).sum = sg (fun j => if belI t.nodes a (j : Int) = true then oA o j else 0) m := by
      intro m
      induction m with
      | zero => rfl
      | succ m ih => rw [selI_succ, sg_succ, ← ih]; split <;> simp
    rw [k2]
    exact sg_ext hl fun j h3 _ => by rw [oA_out h3]; simp
  have hst := sumN_tot (ns := t.nodes) (a := a) h.nn
  have htt := h.tt
  rw [e1, apply_add hw2 (o := growO (prT t a).nodes.length []) (OwnOK.nil.zeros _) hg (fun p hp => by
    obtain ⟨i, hi, rfl⟩ := List.mem_map.1 hp
    obtain ⟨h1, h2⟩ := mem_selI.1 hi
    exact ⟨by rw [hn]; exact rk_lt h1 h2, h.nn i⟩) (by rw [hps, hsum, hto]; omega)]
  congr 1
  refine oA_ext (by rw [addL_len, hg, hn, prO_len]) fun j => ?_
  rw [addL_at _ _ (fun p hp => by
    obtain ⟨i, hi, rfl⟩ := List.mem_map.1 hp
    obtain ⟨h1, h2⟩ := mem_selI.1 hi
    rw [hg, hn]; exact rk_lt h1 h2), hz, Int.zero_add]
  have key : ∀ m, m ≤ t.nodes.length → addS ((selI t.nodes a m).map fun i => (rk t.nodes a i, oA o i)) j = if j < rk t.nodes a m then oA (prO t.nodes a o) j else 0 := by
    intro m
    induction m with
    | zero => intro _; rw [if_neg (by unfold rk; rw [selI_low (Nat.zero_le _)]; simp)]; rfl
    | succ m ih =>
      intro hm
      rw [selI_succ, rk_succ]
      by_cases hb : belI t.nodes a (m : Int) = true
      · rw [if_pos hb, if_pos hb, List.map_append, addS_app, ih (by omega)]
        have e4 : addS ([m].map fun i => (rk t.nodes a i, oA o i)) j = if rk t.nodes a m = j then oA o m else 0 := by simp [addS]
        rw [e4]
        by_cases e5 : rk t.nodes a m = j
        · rw [if_neg (by omega), if_pos e5, if_pos (by omega), ← e5, prO_at (by omega) hb]; omega
        · rw [if_neg e5]
          by_cases e6 : j < rk t.nodes a m
          · rw [if_pos e6, if_pos (by omega)]; omega
          · rw [if_neg e6, if_neg (by omega)]; rfl
      · rw [if_neg hb, if_neg hb, Nat.add_zero]; exact ih (by omega)
  rw [key _ (Nat.le_refl _)]
  split
  · rfl
  · exact (oA_out (by rw [prO_len]; omega)).symm
end
end Go.SL
