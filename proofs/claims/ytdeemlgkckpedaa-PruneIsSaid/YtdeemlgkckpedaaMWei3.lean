import Derived.Test.YtdeemlgkckpedaaX9
set_option linter.unusedVariables false
set_option linter.unusedSimpArgs false
namespace Go.SL
/-! ### rows of acts -/
def deltasW (a : WAct) : List Delta := ⟨nameR a.root, a.n⟩ :: (if a.more = 0 then [] else [⟨nameR a.parent, a.more⟩])
def stepW (s : TreeS × List Int) (a : WAct) : TreeS × List Int := if a.kind = 0 then ((s.1.add (nameR a.root) (nameR a.parent) a.slot).2, s.2) else (s.1, (applyO s.1.nodes s.2 (deltasW a)).2)
def t0W : TreeS := TreeS.new (nameR 0) 0 256
def s0W : TreeS × List Int := (t0W, growO t0W.nodes.length [])
structure OKW (s : TreeS × List Int) : Prop where
  wf : s.1.WF
  le : s.2.length ≤ s.1.nodes.length
  ow : OwnOK s.2
  pos : 0 < s.2.length
  first : (s.1.nodes[0]?).map (·.root) = some (nameR 0)
theorem OKW.zero : OKW s0W := ⟨TreeS.WF.new (by decide) (by decide) (by decide) (by decide), by decide, OwnOK.nil.zeros _, by decide, rfl⟩
theorem OKW.step {s : TreeS × List Int} (h : OKW s) (a : WAct) : OKW (stepW s a) := by
  unfold stepW
  by_cases hk : a.kind = 0
  · rw [if_pos hk]
    obtain ⟨_, xs, e⟩ := s.1.add_most (nameR a.root) (nameR a.parent) a.slot
    refine ⟨h.wf.add _ _ _, ?_, h.ow, h.pos, ?_⟩
    · dsimp only; rw [e, List.length_append]; have := h.le; omega
    · dsimp only; rw [e, List.getElem?_append_left h.wf.ne]; exact h.first
  · rw [if_neg hk]
    exact ⟨h.wf, Nat.le_of_eq (applyO_len h.le _), applyO_ok h.ow _, by dsimp only; rw [applyO_len h.le]; exact h.wf.ne, h.first⟩
def runW (xs : List WAct) : TreeS × List Int := xs.foldl stepW s0W
theorem runW_succ {xs : List WAct} {i : Nat} (h : i < xs.length) : runW (xs.take (i + 1)) = stepW (runW (xs.take i)) xs[i] := by
  unfold runW
  rw [List.take_succ_eq_append_getElem h, List.foldl_append]
  rfl
theorem OKW.run (xs : List WAct) : OKW (runW xs) := by
  have key : ∀ m, m ≤ xs.length → OKW (runW (xs.take m)) := by
    intro m
    induction m with
    | zero => intro _; exact OKW.zero
    | succ m ih => intro hm; rw [runW_succ (by omega)]; exact (ih (by omega)).step _
  have := key xs.length (Nat.le_refl _)
  rwa [List.take_length] at this
theorem stepW_add {s : TreeS × List Int} {a : WAct} (h : a.kind = 0) : stepW s a = ((s.1.add (nameR a.root) (nameR a.parent) a.slot).2, s.2) := if_pos h
theorem stepW_app {s : TreeS × List Int} {a : WAct} (h : ¬ a.kind = 0) : stepW s a = (s.1, (applyO s.1.nodes s.2 (deltasW a)).2) := if_neg h
theorem OKW.idx0 {s : TreeS × List Int} (h : OKW s) : idxOf s.1.nodes (nameR 0) = some 0 := by
  have h1 := h.first
  rw [List.getElem?_eq_getElem h.wf.ne] at h1
  have h2 : (s.1.nodes[0]'h.wf.ne).root = nameR 0 := by simpa using h1
  rw [← h2]
  exact idxOf_get h.wf.nd (List.getElem?_eq_getElem h.wf.ne)
theorem applyO_nil (ns : List Node) (o : List Int) (h : OwnOK o) : applyO ns o [] = (0, growO ns.length o) := by
  have h1 : tot (growO ns.length o) < 4611686018427387904 := (h.zeros _).tt
  unfold applyO runO
  dsimp only
  rw [if_pos rfl, if_pos h1]
theorem nodes_add {t : TreeS} {r p : Root} {slot : Int} : ∃ xs, (t.add r p slot).2.nodes = t.nodes ++ xs := (t.add_most r p slot).2
theorem sumL_add {t : TreeS} (hw : t.WF) {o : List Int} (h : o.length ≤ t.nodes.length) (r p : Root) (slot : Int) : sumL (t.add r p slot).2.nodes o = sumL t.nodes o := by
  obtain ⟨xs, e⟩ := nodes_add (t := t) (r := r) (p := p) (slot := slot)
  rw [e]; exact sumL_app hw.pa h
theorem bestL_add {t : TreeS} {T : List Int} (h : T.length ≤ t.nodes.length) (r p : Root) (slot : Int) : bestL (t.add r p slot).2.nodes T = bestL t.nodes T := by
  obtain ⟨xs, e⟩ := nodes_add (t := t) (r := r) (p := p) (slot := slot)
  rw [e]; exact bestL_app h
theorem leafL_add {t : TreeS} {T : List Int} (h : T.length ≤ t.nodes.length) (r p : Root) (slot : Int) : leafL (t.add r p slot).2.nodes T = leafL t.nodes T := by
  obtain ⟨xs, e⟩ := nodes_add (t := t) (r := r) (p := p) (slot := slot)
  rw [e]; exact leafL_app h
theorem ofF_at {t : TreeS} (hw : t.WF) {n i : Nat} {f : Nat → Int} (hi : i < t.nodes.length) (hn : i < n) : ofF t n f t.nodes[i].root = f i := by
  unfold ofF
  rw [idxOf_get hw.nd (List.getElem?_eq_getElem hi)]
  dsimp only
  rw [if_pos hn]
end Go.SL
