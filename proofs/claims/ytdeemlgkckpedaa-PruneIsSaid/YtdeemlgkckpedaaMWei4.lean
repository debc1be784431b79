import Derived.Test.YtdeemlgkckpedaaMWei3
set_option linter.unusedVariables false
set_option linter.unusedSimpArgs false
namespace Go.SL
/-! ### the laws of weights, in plain Lean -/
theorem kidsTo_map {ns : List Node} {r : Root} {a : Nat} (h : idxOf ns r = some a) : ∀ m, m ≤ ns.length → kidsTo ns r m = (kidsI ns m a).map (rtA ns) := by
  intro m
  induction m with
  | zero => intro _; unfold kidsTo kidsI; rw [h]; rfl
  | succ m ih =>
    intro hm
    rw [kidsTo_succ h (by omega), kidsI_succ, ih (by omega), prA_get (by omega)]
    by_cases e : ns[m].parent = (a : Int)
    · rw [if_pos e, if_pos e, List.map_append, List.map_cons, List.map_nil, rtA_get (by omega)]
    · rw [if_neg e, if_neg e]
theorem kids_map {t : TreeS} {r : Root} {a : Nat} (h : idxOf t.nodes r = some a) : t.kids r = (kidsI t.nodes t.nodes.length a).map (rtA t.nodes) := by
  rw [← kidsTo_all]; exact kidsTo_map h _ (Nat.le_refl _)
theorem idx_rt {t : TreeS} (hw : t.WF) {i : Nat} (hi : i < t.nodes.length) : idxOf t.nodes (rtA t.nodes i) = some i := by
  rw [rtA_get hi]; exact idxOf_get hw.nd (List.getElem?_eq_getElem hi)
theorem ofF_rt {t : TreeS} (hw : t.WF) {n i : Nat} {f : Nat → Int} (hi : i < t.nodes.length) (hn : i < n) : ofF t n f (rtA t.nodes i) = f i := by
  unfold ofF
  rw [idx_rt hw hi]
  dsimp only
  rw [if_pos hn]
theorem roots_at {t : TreeS} {i : Nat} (h : i < t.roots.length) : t.roots[i] = rtA t.nodes i := by
  have h2 : i < t.nodes.length := by simpa [TreeS.roots] using h
  rw [rtA_get h2]
  simp [TreeS.roots]
theorem roots_len (t : TreeS) : t.roots.length = t.nodes.length := by simp [TreeS.roots]
theorem kid_get {t : TreeS} (hw : t.WF) {i : Nat} (hi : i < t.nodes.length) {y : Nat} (hy : y < (t.kids (rtA t.nodes i)).length) : ∃ b, (t.kids (rtA t.nodes i))[y] = rtA t.nodes b ∧ i < b ∧ b < t.nodes.length ∧ prA t.nodes b = i := by
  have e := kids_map (idx_rt hw hi)
  have hy2 : y < (kidsI t.nodes t.nodes.length i).length := by rw [e, List.length_map] at hy; exact hy
  have hm := List.getElem_mem hy2
  have h1 := kidsI_gt hw.pa (Nat.le_refl _) hm
  refine ⟨(kidsI t.nodes t.nodes.length i)[y], ?_, h1.1, h1.2, (mem_kidsI.1 hm).2⟩
  have : (t.kids (rtA t.nodes i))[y] = ((kidsI t.nodes t.nodes.length i).map (rtA t.nodes))[y]'(by rw [List.length_map]; exact hy2) := by congr 1
  rw [this, List.getElem_map]
theorem kid_le {t : TreeS} (hw : t.WF) {o : List Int} (hl : o.length ≤ t.nodes.length) (ho : ∀ j, 0 ≤ oA o j) {i b : Nat} (hb : b < t.nodes.length) (hib : i < b) (hp : prA t.nodes b = i) : sumN t.nodes o b ≤ sumN t.nodes o i :=
  sumN_le hw.pa hl ho hb (by rw [belI_pr hw.pa hb (by omega), hp, belI_eq])
theorem below_at {t : TreeS} (hw : t.WF) {i a : Nat} (hi : i < t.nodes.length) (ha : a < t.nodes.length) : t.below (rtA t.nodes i) (rtA t.nodes a) = belI t.nodes i (a : Int) := by
  rw [TreeS.below_eq, idx_rt hw hi]
  dsimp only
  unfold TreeS.place
  rw [idx_rt hw ha]
theorem growO_same {n : Nat} {o : List Int} (h : o.length = n) : growO n o = o := by unfold growO; rw [h, Nat.sub_self, List.replicate_zero, List.append_nil]
theorem s0_zero (j : Nat) : oA s0W.2 j = 0 := by
  unfold s0W growO
  dsimp only
  rw [oA_zeros, oA_out (Nat.zero_le _)]
theorem grow_oA (n : Nat) (o : List Int) (j : Nat) : oA (growO n o) j = oA o j := oA_zeros
theorem sum_zero {ns : List Node} {o : List Int} (h : ∀ j, oA o j = 0) (a : Nat) : sumN ns o a = 0 := sg_zero fun j _ => by rw [h j]; split <;> rfl
theorem bestR_at {t : TreeS} (hw : t.WF) {o : List Int} {i : Nat} (hi : i < t.nodes.length) (hn : i < o.length) : bestR t o (rtA t.nodes i) = if bestN t.nodes (oA (sumL t.nodes o)) o.length i < 0 then (Root.zero, false) else (rtA t.nodes (bestN t.nodes (oA (sumL t.nodes o)) o.length i).toNat, true) := by
  have e : bestI t o (rtA t.nodes i) = bestN t.nodes (oA (sumL t.nodes o)) o.length i := by unfold bestI; rw [ofF_rt hw hi hn]; omega
  unfold bestR
  rw [e]
theorem kids_none {t : TreeS} (hw : t.WF) {o : List Int} (hl : o.length = t.nodes.length) {i : Nat} (hi : i < t.nodes.length) : (t.kids (rtA t.nodes i)).length = 0 ↔ bestN t.nodes (oA (sumL t.nodes o)) o.length i < 0 := by
  rw [kids_map (idx_rt hw hi), List.length_map, hl]
  rcases bestN_is hw.nd (oA (sumL t.nodes o)) (Nat.le_refl t.nodes.length) i with ⟨h1, h2⟩ | ⟨k, h1, h2, _⟩
  · rw [h1, h2]; simp
  · rw [h1]
    constructor
    · intro h3
      rw [List.eq_nil_of_length_eq_zero h3] at h2; simp at h2
    · intro h3; omega
/-- without weights no child is ahead of the best one -/
theorem ties {t : TreeS} (hw : t.WF) {o : List Int} (hl : o.length = t.nodes.length) (ho : ∀ j, oA o j = 0) {i b : Nat} (hb : b < t.nodes.length) (hp : prA t.nodes b = i) : ∃ k : Nat, bestN t.nodes (oA (sumL t.nodes o)) o.length i = k ∧ Op.bytesLess (rtA t.nodes k).1 (rtA t.nodes b).1 = false := by
  have hm : b ∈ kidsI t.nodes o.length i := mem_kidsI.2 ⟨by omega, hp⟩
  rcases bestN_is hw.nd (oA (sumL t.nodes o)) (Nat.le_of_eq hl) i with ⟨h1, h2⟩ | ⟨k, h1, h2, h3⟩
  · rw [h1] at hm; simp at hm
  · refine ⟨k, h1, ?_⟩
    by_cases e : b = k
    · subst e; exact bl_irrefl _
    · have h4 := h3 b hm e
      have hk := (mem_kidsI.1 h2).1
      unfold beats at h4
      rw [sumL_at (show b < o.length by omega), sumL_at hk, sum_zero ho, sum_zero ho] at h4
      simp at h4
      exact bl_asymm h4
/-! acts that are blocks alone -/
def stepA (s : TreeS × List Int) (a : WAct) : TreeS × List Int := if a.kind = 0 then stepW s a else s
def runA (xs : List WAct) : TreeS × List Int := xs.foldl stepA s0W
theorem runA_succ {xs : List WAct} {i : Nat} (h : i < xs.length) : runA (xs.take (i + 1)) = stepA (runA (xs.take i)) xs[i] := by
  unfold runA
  rw [List.take_succ_eq_append_getElem h, List.foldl_append]
  rfl
theorem OKW.runA (xs : List WAct) : OKW (runA xs) ∧ (Go.SL.runA xs).2 = s0W.2 := by
  have key : ∀ m, m ≤ xs.length → OKW (Go.SL.runA (xs.take m)) ∧ (Go.SL.runA (xs.take m)).2 = s0W.2 := by
    intro m
    induction m with
    | zero => intro _; exact ⟨OKW.zero, rfl⟩
    | succ m ih =>
      intro hm
      obtain ⟨h1, h2⟩ := ih (by omega)
      rw [runA_succ (by omega)]
      unfold stepA
      by_cases hk : xs[m].kind = 0
      · rw [if_pos hk]
        refine ⟨h1.step _, ?_⟩
        rw [stepW_add hk]; exact h2
      · rw [if_neg hk]; exact ⟨h1, h2⟩
  have := key xs.length (Nat.le_refl _)
  rwa [List.take_length] at this
/-! adding at places -/
def addL (o : List Int) (l : List (Nat × Int)) : List Int := l.foldl (fun o p => o.set p.1 (oA o p.1 + p.2)) o
def addS (l : List (Nat × Int)) (j : Nat) : Int := (l.map fun p => if p.1 = j then p.2 else 0).sum
theorem addL_len (l : List (Nat × Int)) : ∀ o, (addL o l).length = o.length := by
  induction l with
  | nil => intro o; rfl
  | cons p r ih =>
    intro o
    show (addL (o.set p.1 (oA o p.1 + p.2)) r).length = _
    rw [ih, List.length_set]
theorem addL_at (l : List (Nat × Int)) : ∀ (o : List Int), (∀ p ∈ l, p.1 < o.length) → ∀ j, oA (addL o l) j = oA o j + addS l j := by
  induction l with
  | nil => intro o _ j; show oA o j = oA o j + 0; omega
  | cons p r ih =>
    intro o h j
    show oA (addL (o.set p.1 (oA o p.1 + p.2)) r) j = _
    have hp := h p List.mem_cons_self
    rw [ih _ (fun q hq => by rw [List.length_set]; exact h q (List.mem_cons_of_mem _ hq)), oA_set hp]
    have e : addS (p :: r) j = (if p.1 = j then p.2 else 0) + addS r j := rfl
    rw [e]
    by_cases q : j = p.1
    · rw [if_pos q, if_pos q.symm, q]; omega
    · rw [if_neg q, if_neg (fun h => q h.symm)]; omega
theorem addS_app (a b : List (Nat × Int)) (j : Nat) : addS (a ++ b) j = addS a j + addS b j := by unfold addS; rw [List.map_append, List.sum_append]
theorem addS_rev (l : List (Nat × Int)) (j : Nat) : addS l.reverse j = addS l j := by
  induction l with
  | nil => rfl
  | cons p r ih =>
    rw [List.reverse_cons, addS_app, ih]
    show addS r j + ((if p.1 = j then p.2 else 0) + 0) = (if p.1 = j then p.2 else 0) + addS r j
    omega
theorem oA_ext {a b : List Int} (h : a.length = b.length) (he : ∀ j, oA a j = oA b j) : a = b := by
  apply List.ext_getElem h
  intro j h1 h2
  rw [← oA_get h1, ← oA_get h2, he j]
theorem addL_rev {o : List Int} {l : List (Nat × Int)} (h : ∀ p ∈ l, p.1 < o.length) : addL o l.reverse = addL o l :=
  oA_ext (by rw [addL_len, addL_len]) fun j => by rw [addL_at l.reverse o (fun p hp => h p (List.mem_reverse.1 hp)), addL_at l o h, addS_rev]
theorem addL_app (o : List Int) (a b : List (Nat × Int)) : addL o (a ++ b) = addL (addL o a) b := List.foldl_append
def toD (ns : List Node) (p : Nat × Int) : Delta := ⟨rtA ns p.1, p.2⟩
theorem step_add {t : TreeS} (hw : t.WF) {o : List Int} (ho : OwnOK o) (hl : o.length = t.nodes.length) {p : Nat × Int} (hp : p.1 < t.nodes.length) (h0 : 0 ≤ p.2) (h1 : tot o + p.2 < 4611686018427387904) : stepO t.nodes o (toD t.nodes p) = (0, addL o [p]) ∧ OwnOK (addL o [p]) ∧ tot (addL o [p]) = tot o + p.2 := by
  have hn := ho.nn p.1
  have hle := sg_get (f := oA o) (m := o.length) (fun j _ => ho.nn j) (i := p.1) (by omega)
  have htt : 0 ≤ tot o := sg_nonneg fun j _ => ho.nn j
  have htt2 : oA o p.1 ≤ tot o := hle
  have e1 : tot (addL o [p]) = tot o + p.2 := by
    show tot (o.set p.1 (oA o p.1 + p.2)) = _
    rw [tot_set (by omega)]; omega
  refine ⟨stepO_in (i := p.1) (idx_rt hw hp) (by show ¬ (p.2 ≤ _ ∨ _ ≤ p.2); omega) (by show ¬ (oA o p.1 + p.2 < 0 ∨ _ ≤ oA o p.1 + p.2); omega), ⟨fun j => ?_, by rw [e1]; exact h1⟩, e1⟩
  show 0 ≤ oA (o.set p.1 (oA o p.1 + p.2)) j
  rw [oA_set (by omega)]
  split
  · omega
  · exact ho.nn j
def psum (l : List (Nat × Int)) : Int := (l.map (·.2)).sum
theorem run_add {t : TreeS} (hw : t.WF) : ∀ (l : List (Nat × Int)) {o : List Int}, OwnOK o → o.length = t.nodes.length → (∀ p ∈ l, p.1 < t.nodes.length ∧ 0 ≤ p.2) → tot o + psum l < 4611686018427387904 → runO t.nodes o (l.map (toD t.nodes)) = (0, addL o l) ∧ OwnOK (addL o l)
  | [], o, ho, _, _, _ => ⟨rfl, ho⟩
  | p :: r, o, ho, hl, hp, hs => by
    have hr : 0 ≤ psum r := by
      have : ∀ (r : List (Nat × Int)), (∀ p ∈ r, 0 ≤ p.2) → 0 ≤ psum r := fun r => by
        induction r with
        | nil => intro _; exact Int.le_refl _
        | cons q r ih =>
          intro h
          have h1 := ih fun p hp => h p (List.mem_cons_of_mem _ hp)
          have h2 := h q List.mem_cons_self
          show 0 ≤ q.2 + psum r
          omega
      exact this r fun q hq => (hp q (List.mem_cons_of_mem _ hq)).2
    have hs2 : tot o + (p.2 + psum r) < 4611686018427387904 := hs
    have h0 := hp p List.mem_cons_self
    obtain ⟨e1, e2, e3⟩ := step_add hw ho hl h0.1 h0.2 (by omega)
    obtain ⟨e4, e5⟩ := run_add hw r e2 (by rw [addL_len]; exact hl) (fun q hq => hp q (List.mem_cons_of_mem _ hq)) (by rw [e3]; omega)
    refine ⟨?_, e5⟩
    show (if (stepO t.nodes o (toD t.nodes p)).1 = 0 then runO t.nodes (stepO t.nodes o (toD t.nodes p)).2 (r.map (toD t.nodes)) else _) = _
    rw [e1, if_pos rfl]
    exact e4
theorem apply_add {t : TreeS} (hw : t.WF) {l : List (Nat × Int)} {o : List Int} (ho : OwnOK o) (hl : o.length = t.nodes.length) (hp : ∀ p ∈ l, p.1 < t.nodes.length ∧ 0 ≤ p.2) (hs : tot o + psum l < 4611686018427387904) : applyO t.nodes o (l.map (toD t.nodes)) = (0, addL o l) := by
  obtain ⟨h1, h2⟩ := run_add hw l ho hl hp hs
  unfold applyO
  dsimp only
  rw [growO_same hl, h1, if_pos rfl, if_pos h2.tt]
/-- so much less again -/
theorem apply_less {t : TreeS} (hw : t.WF) {o : List Int} (ho : OwnOK o) (hl : o.length = t.nodes.length) {a : Nat} (ha : a < t.nodes.length) {m : Int} (h0 : 0 ≤ m) (h1 : m ≤ 1099511627776) : applyO t.nodes (addL o [(a, m)]) [⟨rtA t.nodes a, -m⟩] = (0, o) := by
  have hl2 : (addL o [(a, m)]).length = t.nodes.length := by rw [addL_len]; exact hl
  have hv : oA (addL o [(a, m)]) a = oA o a + m := by
    show oA (o.set a (oA o a + m)) a = _
    rw [oA_set (by omega), if_pos rfl]
  have hn := ho.ent a
  have e : (addL o [(a, m)]).set a (oA o a) = o := by
    refine oA_ext (by rw [List.length_set, hl2, hl]) fun j => ?_
    rw [oA_set (by omega)]
    by_cases q : j = a
    · rw [if_pos q, q]
    · rw [if_neg q]
      show oA (o.set a (oA o a + m)) j = _
      rw [oA_set (by omega), if_neg q]
  have h2 : runO t.nodes (addL o [(a, m)]) [⟨rtA t.nodes a, -m⟩] = (0, o) := by
    show (if (stepO t.nodes (addL o [(a, m)]) ⟨rtA t.nodes a, -m⟩).1 = 0 then runO t.nodes (stepO t.nodes (addL o [(a, m)]) ⟨rtA t.nodes a, -m⟩).2 [] else _) = _
    have e2 : stepO t.nodes (addL o [(a, m)]) ⟨rtA t.nodes a, -m⟩ = (0, o) := by
      rw [stepO_in (i := a) (idx_rt hw ha) (by show ¬ (-m ≤ _ ∨ _ ≤ -m); omega) (by rw [hv]; show ¬ (oA o a + m + -m < 0 ∨ _ ≤ oA o a + m + -m); omega), hv]
      rw [show oA o a + m + -m = oA o a by omega, e]
    rw [e2, if_pos rfl]
    rfl
  unfold applyO
  dsimp only
  rw [growO_same hl2, h2, if_pos rfl, if_pos ho.tt]
theorem sum_add {ns : List Node} {o : List Int} {a : Nat} (ha : a < o.length) (m : Int) (x : Nat) : sumN ns (addL o [(a, m)]) x = sumN ns o x + if belI ns x (a : Int) = true then m else 0 := by
  show sumN ns (o.set a (oA o a + m)) x = _
  rw [sumN_set ha, show oA o a + m - oA o a = m by omega]
end Go.SL
namespace Go.SL
theorem runW_T (xs : List WAct) : (runW xs).2.length ≤ (runW xs).1.nodes.length := (OKW.run xs).le
theorem tab_snoc (n : Nat) (f : Nat → Int) : tab n f ++ [f n] = tab (n + 1) f := by unfold tab; rw [List.range_succ, List.map_append]; rfl
theorem OKW.rt0 {s : TreeS × List Int} (h : OKW s) : rtA s.1.nodes 0 = nameR 0 := by
  have h1 := h.first
  rw [List.getElem?_eq_getElem h.wf.ne] at h1
  rw [rtA_get h.wf.ne]
  simpa using h1
theorem apply_more {t : TreeS} (hw : t.WF) {o : List Int} (ho : OwnOK o) (hl : o.length = t.nodes.length) {a : Nat} (ha : a < t.nodes.length) {m : Int} (h0 : 0 ≤ m) (h1 : tot o + m < 4611686018427387904) : applyO t.nodes o [⟨rtA t.nodes a, m⟩] = (0, addL o [(a, m)]) ∧ OwnOK (addL o [(a, m)]) := by
  have h2 : tot o + psum [(a, m)] < 4611686018427387904 := by show tot o + (m + 0) < _; omega
  have h3 : ∀ p ∈ [(a, m)], p.1 < t.nodes.length ∧ 0 ≤ p.2 := fun p hp => by
    rw [List.mem_singleton] at hp
    subst hp
    exact ⟨ha, h0⟩
  exact ⟨apply_add hw ho hl h3 h2, (run_add hw _ ho hl h3 h2).2⟩
theorem applyO_grow (ns : List Node) (o : List Int) (l : List Delta) (h : o.length ≤ ns.length) : applyO ns o l = applyO ns (growO ns.length o) l := by
  unfold applyO
  dsimp only
  rw [growO_same (growO_len h)]
/-! acts that are all taken for blocks -/
def stepZ (s : TreeS × List Int) (a : WAct) : TreeS × List Int := stepW s { a with kind := 0 }
def runZ (xs : List WAct) : TreeS × List Int := xs.foldl stepZ s0W
theorem runZ_succ {xs : List WAct} {i : Nat} (h : i < xs.length) : runZ (xs.take (i + 1)) = stepZ (runZ (xs.take i)) xs[i] := by
  unfold runZ
  rw [List.take_succ_eq_append_getElem h, List.foldl_append]
  rfl
theorem OKW.runZ (xs : List WAct) : OKW (Go.SL.runZ xs) ∧ (Go.SL.runZ xs).2 = s0W.2 := by
  have key : ∀ m, m ≤ xs.length → OKW (Go.SL.runZ (xs.take m)) ∧ (Go.SL.runZ (xs.take m)).2 = s0W.2 := by
    intro m
    induction m with
    | zero => intro _; exact ⟨OKW.zero, rfl⟩
    | succ m ih =>
      intro hm
      obtain ⟨h1, h2⟩ := ih (by omega)
      rw [runZ_succ (by omega)]
      unfold stepZ
      refine ⟨h1.step _, ?_⟩
      rw [stepW_add rfl]
      exact h2
  have := key xs.length (Nat.le_refl _)
  rwa [List.take_length] at this
def pl (n : Nat) (at_ more : List Int) (i : Nat) : List (Nat × Int) := (List.range i).map fun j => (u64N (oA at_ j) % n, oA more j)
theorem pl_len (n : Nat) (x y : List Int) (i : Nat) : (pl n x y i).length = i := by simp [pl]
theorem pl_get {n : Nat} {x y : List Int} {i j : Nat} (h : j < (pl n x y i).length) : (pl n x y i)[j] = (u64N (oA x j) % n, oA y j) := by simp [pl]
theorem pl_succ (n : Nat) (x y : List Int) (i : Nat) : pl n x y (i + 1) = pl n x y i ++ [(u64N (oA x i) % n, oA y i)] := by unfold pl; rw [List.range_succ, List.map_append]; rfl
theorem pl_take (n : Nat) (x y : List Int) {i m : Nat} (h : m ≤ i) : (pl n x y i).take m = pl n x y m := by
  unfold pl
  rw [← List.map_take, List.take_range, Nat.min_eq_left h]
theorem psum_app (a b : List (Nat × Int)) : psum (a ++ b) = psum a + psum b := by unfold psum; rw [List.map_append, List.sum_append]
theorem pl_sum {n : Nat} {x y : List Int} {i : Nat} (h : ∀ j, j < i → 0 ≤ oA y j ∧ oA y j ≤ 1099511627776) : 0 ≤ psum (pl n x y i) ∧ psum (pl n x y i) ≤ 1099511627776 * i := by
  induction i with
  | zero => exact ⟨Int.le_refl _, by simp [pl, psum]⟩
  | succ i ih =>
    have h1 := ih fun j hj => h j (by omega)
    have h2 := h i (by omega)
    rw [pl_succ, psum_app]
    show 0 ≤ psum (pl n x y i) + (oA y i + 0) ∧ psum (pl n x y i) + (oA y i + 0) ≤ _
    omega
theorem psum_rev (l : List (Nat × Int)) : psum l.reverse = psum l := by
  induction l with
  | nil => rfl
  | cons p r ih =>
    rw [List.reverse_cons, psum_app, ih]
    show psum r + (p.2 + 0) = p.2 + psum r
    omega
theorem pl_ok {n : Nat} {x y : List Int} {i : Nat} (hn : 0 < n) (h : ∀ j, j < i → 0 ≤ oA y j ∧ oA y j ≤ 1099511627776) : ∀ p ∈ pl n x y i, p.1 < n ∧ 0 ≤ p.2 := fun p hp => by
  unfold pl at hp
  obtain ⟨j, hj, rfl⟩ := List.mem_map.1 hp
  exact ⟨Nat.mod_lt _ hn, (h j (by simpa using hj)).1⟩
theorem s0_tot {n : Nat} : tot (growO n s0W.2) = 0 := by
  unfold growO
  rw [tot_zeros]
  decide
/-- all at once, the last one first -/
theorem turn_all {t : TreeS} (hw : t.WF) {x y : List Int} {i : Nat} (hi : i ≤ 40) (h : ∀ j, j < i → 0 ≤ oA y j ∧ oA y j ≤ 1099511627776) {O : List Int} (hO : OwnOK O) (hz : tot O = 0) (hl : O.length = t.nodes.length) :
    applyO t.nodes O ((pl t.nodes.length x y i).reverse.map (toD t.nodes)) = (0, addL O (pl t.nodes.length x y i)) := by
  have hs := pl_sum (n := t.nodes.length) (x := x) h
  have hk := pl_ok (x := x) hw.ne h
  rw [apply_add hw hO hl (fun p hp => hk p (List.mem_reverse.1 hp)) (by rw [psum_rev]; omega), addL_rev (fun p hp => by rw [hl]; exact (hk p hp).1)]
/-- one by one -/
theorem turn_one {t : TreeS} (hw : t.WF) {x y : List Int} {i m : Nat} (hi : i ≤ 40) (hm : m < i) (h : ∀ j, j < i → 0 ≤ oA y j ∧ oA y j ≤ 1099511627776) {O : List Int} (hO : OwnOK O) (hz : tot O = 0) (hl : O.length = t.nodes.length) :
    OwnOK (addL O (pl t.nodes.length x y m)) ∧ applyO t.nodes (addL O (pl t.nodes.length x y m)) [toD t.nodes (u64N (oA x m) % t.nodes.length, oA y m)] = (0, addL O (pl t.nodes.length x y (m + 1))) := by
  have hs := pl_sum (n := t.nodes.length) (x := x) (i := m) (fun j hj => h j (by omega))
  have hk := pl_ok (x := x) (i := m) hw.ne (fun j hj => h j (by omega))
  have h1 := run_add hw _ hO hl hk (by omega)
  have htt : ∀ (l : List (Nat × Int)) (o : List Int), (∀ p ∈ l, p.1 < o.length) → tot (addL o l) = tot o + psum l := fun l => by
    induction l with
    | nil => intro o _; show tot o = tot o + 0; omega
    | cons p r ih =>
      intro o hp
      show tot (addL (o.set p.1 (oA o p.1 + p.2)) r) = tot o + (p.2 + psum r)
      rw [ih _ (fun q hq => by rw [List.length_set]; exact hp q (List.mem_cons_of_mem _ hq)), tot_set (hp p List.mem_cons_self)]
      omega
  have ht := htt _ O fun p hp => by rw [hl]; exact (hk p hp).1
  have hv := h m hm
  have e := apply_add hw (l := [(u64N (oA x m) % t.nodes.length, oA y m)]) h1.2 (by rw [addL_len]; exact hl) (fun p hp => by
    rw [List.mem_singleton] at hp
    subst hp
    exact ⟨Nat.mod_lt _ hw.ne, hv.1⟩) (by show _ + (oA y m + 0) < _; omega)
  refine ⟨h1.2, ?_⟩
  rw [pl_succ, addL_app]
  exact e
end Go.SL
