import Derived.Test.YtdeemlgkckpedaaMPrn2
set_option linter.unusedVariables false
set_option linter.unusedSimpArgs false
namespace Go.SL
/-! ### a tree and its weights, made -/
def t0M : TreeS := TreeS.new (nameR 0) 0 100
def inM (b : PBlk) : Bool := decide (0 ≤ b.n) && decide (b.n ≤ 1099511627776)
def stepM (s : TreeS × List Delta) (b : PBlk) : TreeS × List Delta :=
  let t := (s.1.add (nameR b.root) (nameR b.parent) b.slot).2
  (t, if 0 ≤ t.place (nameR b.root) then s.2 ++ [⟨nameR b.root, b.n⟩] else s.2)
def runM (xs : List PBlk) : TreeS × List Delta := xs.foldl stepM (t0M, [])
def ownM (xs : List PBlk) : List Int := (applyO (runM xs).1.nodes (growO (runM xs).1.nodes.length []) (runM xs).2).2
theorem runM_succ {xs : List PBlk} {i : Nat} (h : i < xs.length) : runM (xs.take (i + 1)) = stepM (runM (xs.take i)) xs[i] := by
  unfold runM
  rw [List.take_succ_eq_append_getElem h, List.foldl_append]
  rfl
structure OKM (s : TreeS) : Prop where
  wf : s.WF
  first : (s.nodes[0]?).map (·.root) = some (nameR 0)
theorem OKM.add {s : TreeS} (h : OKM s) (r p : Root) (sl : Int) : OKM (s.add r p sl).2 := by
  obtain ⟨_, xs, e⟩ := s.add_most r p sl
  refine ⟨h.wf.add _ _ _, ?_⟩
  rw [e, List.getElem?_append_left h.wf.ne]; exact h.first
theorem OKM.zero : OKM t0M := ⟨TreeS.WF.new (by decide) (by decide) (by decide) (by decide), rfl⟩
theorem OKM.take (xs : List PBlk) : ∀ m, m ≤ xs.length → OKM (runM (xs.take m)).1 ∧ (runM (xs.take m)).2.length ≤ m := by
  intro m
  induction m with
  | zero => intro _; exact ⟨OKM.zero, Nat.le_refl _⟩
  | succ m ih =>
    intro hm
    rw [runM_succ (by omega)]
    obtain ⟨h1, h2⟩ := ih (by omega)
    refine ⟨h1.add _ _ _, ?_⟩
    unfold stepM; dsimp only; split
    · rw [List.length_append, List.length_singleton]; omega
    · omega
theorem OKM.run (xs : List PBlk) : OKM (runM xs).1 ∧ (runM xs).2.length ≤ xs.length := by
  have := OKM.take xs xs.length (Nat.le_refl _)
  rwa [List.take_length] at this
theorem OKM.rt0 {s : TreeS} (h : OKM s) : rtA s.nodes 0 = nameR 0 := by
  have h1 := h.first
  unfold rtA
  cases h2 : s.nodes[0]? with
  | none => rw [h2] at h1; cases h1
  | some n => rw [h2] at h1; exact Option.some.inj h1
theorem OKM.idx0 {s : TreeS} (h : OKM s) : idxOf s.nodes (nameR 0) = some 0 := by rw [← h.rt0]; exact idx_rt h.wf h.wf.ne
theorem ownM_len (xs : List PBlk) : (ownM xs).length = (runM xs).1.nodes.length := applyO_len (Nat.le_of_eq (growO_len (Nat.zero_le _))) _
theorem ownM_ok (xs : List PBlk) : OwnOK (ownM xs) := applyO_ok (OwnOK.nil.zeros _) _
/-- the deltas of the first k that are left -/
def delP (ns : List Node) (a : Nat) (o : List Int) (k : Nat) : List Delta := ((selI ns a ns.length).take k).map fun i => (⟨rtA ns i, oA o i⟩ : Delta)
theorem delP_len (ns : List Node) (a : Nat) (o : List Int) {k : Nat} (h : k ≤ rk ns a ns.length) : (delP ns a o k).length = k := by
  unfold delP; rw [List.length_map, List.length_take]; exact Nat.min_eq_left h
theorem delP_succ {ns : List Node} {a : Nat} {o : List Int} {k i : Nat} (h : (selI ns a ns.length)[k]? = some i) : delP ns a o (k + 1) = delP ns a o k ++ [⟨rtA ns i, oA o i⟩] := by
  unfold delP
  obtain ⟨h1, h2⟩ := List.getElem?_eq_some_iff.1 h
  rw [List.take_succ_eq_append_getElem h1, List.map_append, h2]; rfl
theorem delP_all {t : TreeS} (hw : t.WF) {a : Nat} (ha : a < t.nodes.length) {o : List Int} (hl : o.length ≤ t.nodes.length) (h : OwnOK o) {k : Nat} (hk : k = rk t.nodes a t.nodes.length) :
    applyO (prT t a).nodes (growO (prT t a).nodes.length []) (delP t.nodes a o k) = (0, prO t.nodes a o) := by
  rw [← pr_deltas hw ha hl h]
  unfold delP
  rw [List.take_of_length_le (by rw [hk]; exact Nat.le_refl _)]
theorem prT_len (t : TreeS) (a : Nat) : (prT t a).nodes.length = rk t.nodes a t.nodes.length := prN_len _ _ _
theorem prT_roots_len (t : TreeS) (a : Nat) : (prT t a).roots.length = rk t.nodes a t.nodes.length := by rw [roots_len, prT_len]
theorem prT_root {t : TreeS} {a k i : Nat} (h : (selI t.nodes a t.nodes.length)[k]? = some i) (hk : k < (prT t a).roots.length) : (prT t a).roots[k] = rtA t.nodes i := by
  have e : (prT t a).roots[k]? = some (rtA t.nodes i) := by
    unfold prT TreeS.roots prN; dsimp only; rw [List.map_map, List.getElem?_map, h]; rfl
  exact (List.getElem?_eq_some_iff.1 e).2
theorem ofF_rt2 {t : TreeS} (hw : t.WF) {o : List Int} {i : Nat} (hi : i < t.nodes.length) : ofF t o.length (oA o) (rtA t.nodes i) = oA o i := by
  rcases Nat.lt_or_ge i o.length with h | h
  · exact ofF_rt hw hi h
  · unfold ofF; rw [idx_rt hw hi]; dsimp only; rw [if_neg (by omega), oA_out h]
end Go.SL
