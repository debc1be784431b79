import Derived.Test.YtdeemlgkckpedaaEnh
set_option linter.unusedVariables false
set_option linter.unusedSimpArgs false
namespace Go.SL
/-! ### The tree, in plain Lean -/
structure TreeS where
  nodes : List Node
  most : Int
def idxOf (ns : List Node) (r : Root) : Option Nat := ns.findIdx? fun n => decide (n.root = r)
def TreeS.place (t : TreeS) (r : Root) : Int := match idxOf t.nodes r with | some i => (i : Int) | none => -1
def TreeS.node (t : TreeS) (i : Int) : Option Node := if 0 ≤ i then t.nodes[i.toNat]? else none
def nodeNo : Node := ⟨Root.zero, 0, -1⟩
def TreeS.add (t : TreeS) (r p : Root) (slot : Int) : Int × TreeS :=
  if (idxOf t.nodes r).isSome = true then (4, t)
  else match idxOf t.nodes p with
    | none => (5, t)
    | some j =>
      if slot ≤ ((t.nodes[j]?).getD nodeNo).slot ∨ 1073741824 < slot then (5, t)
      else if t.most ≤ t.nodes.length then (6, t)
      else (0, { t with nodes := t.nodes ++ [⟨r, slot, (j : Int)⟩] })
def bel (ns : List Node) (a : Nat) : Nat → Int → Bool
  | 0, _ => false
  | k + 1, i => if i < a then false else if i = a then true else match ns[i.toNat]? with | some n => bel ns a k n.parent | none => false
def TreeS.below (t : TreeS) (o r : Root) : Bool := match idxOf t.nodes o, idxOf t.nodes r with | some a, some i => bel t.nodes a (i + 1) (i : Int) | _, _ => false
def TreeS.kids (t : TreeS) (r : Root) : List Root := match idxOf t.nodes r with | some a => (t.nodes.filter fun n => decide (n.parent = (a : Int))).map (·.root) | none => []
def TreeS.roots (t : TreeS) : List Root := t.nodes.map (·.root)
def TreeS.new (r : Root) (slot most : Int) : TreeS := ⟨[⟨r, slot, -1⟩], most⟩
def atOf (ns : List Node) : List (Root × Int) := ns.zipIdx.map fun p => (p.1.root, (p.2 : Int))
/-- every block but the first has an earlier parent, of an earlier slot -/
def Par (ns : List Node) : Prop := ∀ i n, ns[i]? = some n → (i = 0 ∧ n.parent = -1) ∨ ∃ j m, n.parent = ((j : Nat) : Int) ∧ j < i ∧ ns[j]? = some m ∧ m.slot < n.slot
structure TreeS.WF (t : TreeS) : Prop where
  nd : (t.nodes.map (·.root)).Nodup
  ne : 0 < t.nodes.length
  m1 : 1 ≤ t.most
  m2 : t.most ≤ 256
  le : (t.nodes.length : Int) ≤ t.most
  sl : ∀ n ∈ t.nodes, 0 ≤ n.slot ∧ n.slot ≤ 1073741824
  pa : Par t.nodes
section
variable {ns : List Node} {r : Root} {i j a : Nat} {n : Node}
theorem idxOf_some (h : idxOf ns r = some i) : ∃ n, ns[i]? = some n ∧ n.root = r := by
  unfold idxOf at h
  obtain ⟨hi, h1, _⟩ := List.findIdx?_eq_some_iff_getElem.1 h
  exact ⟨ns[i], List.getElem?_eq_getElem hi, by simpa using h1⟩
theorem idxOf_lt (h : idxOf ns r = some i) : i < ns.length := let ⟨_, h1, _⟩ := idxOf_some h; (List.getElem?_eq_some_iff.1 h1).1
theorem idxOf_none : idxOf ns r = none ↔ ∀ n ∈ ns, n.root ≠ r := by
  unfold idxOf
  rw [List.findIdx?_eq_none_iff]
  constructor
  · intro h n hn he
    have := h n hn
    simp [he] at this
  · intro h n hn
    simpa using h n hn
theorem nodup_get {α : Type} {l : List α} (hd : l.Nodup) {i j : Nat} {x : α} (hi : l[i]? = some x) (hj : l[j]? = some x) : i = j :=
  (List.getElem?_inj (List.getElem?_eq_some_iff.1 hi).1 hd).1 (hi.trans hj.symm)
theorem idxOf_get (hd : (ns.map (·.root)).Nodup) (h : ns[i]? = some n) : idxOf ns n.root = some i := by
  cases e : idxOf ns n.root with
  | none => exact absurd rfl (idxOf_none.1 e n (List.mem_of_getElem? h))
  | some k =>
    obtain ⟨m, h1, h2⟩ := idxOf_some e
    congr 1
    exact nodup_get hd (x := n.root) (by rw [List.getElem?_map, h1]; simp [h2]) (by rw [List.getElem?_map, h]; rfl)
theorem idxOf_append {x : Node} : idxOf (ns ++ [x]) r = match idxOf ns r with | some i => some i | none => if x.root = r then some ns.length else none := by
  unfold idxOf
  rw [List.findIdx?_append]
  cases ns.findIdx? fun n => decide (n.root = r) with
  | some i => rfl
  | none =>
    by_cases hx : x.root = r
    · simp [hx, List.findIdx?_cons]
    · simp [hx, List.findIdx?_cons]
theorem atOf_append {x : Node} : atOf (ns ++ [x]) = atOf ns ++ [(x.root, (ns.length : Int))] := by
  unfold atOf
  rw [List.zipIdx_append, List.map_append]
  simp
theorem atOf_keys : (atOf ns).map (·.1) = ns.map (·.root) := by
  unfold atOf
  rw [List.map_map]
  have : (fun p : Node × Nat => p.1.root) = (fun n : Node => n.root) ∘ Prod.fst := rfl
  show ns.zipIdx.map (fun p : Node × Nat => p.1.root) = _
  rw [this, ← List.map_map, List.zipIdx_map_fst]
theorem look_at_aux (r : Root) : ∀ (ns : List Node) (k : Nat), look ((ns.zipIdx k).map fun p => (p.1.root, (p.2 : Int))) r = (idxOf ns r).map fun i => ((k + i : Nat) : Int)
  | [], k => rfl
  | n :: ns, k => by
    have ih := look_at_aux r ns (k + 1)
    unfold look idxOf at ih ⊢
    rw [List.zipIdx_cons, List.map_cons]
    by_cases h : n.root = r
    · simp [h, List.findIdx?_cons]
    · rw [List.find?_cons_of_neg (by simpa using h), ih, List.findIdx?_cons]
      have : decide (n.root = r) = false := by simpa using h
      rw [this]
      simp only [Bool.false_eq_true, if_false, Option.map_map]
      congr 1
      funext x
      show ((k + 1 + x : Nat) : Int) = ((k + (x + 1) : Nat) : Int)
      omega
theorem look_at_ (ns : List Node) (r : Root) : look (atOf ns) r = (idxOf ns r).map fun i : Nat => (i : Int) := by
  have := look_at_aux r ns 0
  simp only [Nat.zero_add] at this
  exact this
theorem ins_at {x : Node} (h : idxOf ns x.root = none) : ins (atOf ns) x.root (ns.length : Int) = atOf (ns ++ [x]) := by
  rw [ins_none (by rw [look_at_, h]; rfl), atOf_append]
theorem Par.append {ns : List Node} (h : Par ns) {x m : Node} {j : Nat} (hj : ns[j]? = some m) (hp : x.parent = (j : Int)) (hs : m.slot < x.slot) : Par (ns ++ [x]) := by
  intro i n hi
  have hjl := (List.getElem?_eq_some_iff.1 hj).1
  by_cases hl : i < ns.length
  · rw [List.getElem?_append_left hl] at hi
    rcases h i n hi with h1 | ⟨j', m', h1, h2, h3, h4⟩
    · exact .inl h1
    · exact .inr ⟨j', m', h1, h2, by rw [List.getElem?_append_left (by omega)]; exact h3, h4⟩
  · rw [List.getElem?_append_right (by omega)] at hi
    have hi0 : i - ns.length = 0 := by
      have := (List.getElem?_eq_some_iff.1 hi).1
      simp at this
      omega
    rw [hi0] at hi
    simp at hi
    subst hi
    exact .inr ⟨j, m, hp, by omega, by rw [List.getElem?_append_left hjl]; exact hj, hs⟩
end
theorem TreeS.WF.new {r : Root} {slot most : Int} (h1 : 1 ≤ most) (h2 : most ≤ 256) (h3 : 0 ≤ slot) (h4 : slot ≤ 1073741824) : (TreeS.new r slot most).WF :=
  ⟨by simp [TreeS.new], by simp [TreeS.new], h1, h2, by simp [TreeS.new]; omega, by simp [TreeS.new]; omega, fun i n h => by
    cases i with
    | zero => simp [TreeS.new] at h; subst h; exact .inl ⟨rfl, rfl⟩
    | succ i => simp [TreeS.new] at h⟩
/-- the ways of an addition -/
theorem TreeS.add_cases (t : TreeS) (r p : Root) (slot : Int) :
    ((idxOf t.nodes r).isSome = true ∧ t.add r p slot = (4, t)) ∨
    (idxOf t.nodes r = none ∧ ((idxOf t.nodes p = none ∧ t.add r p slot = (5, t)) ∨
      ∃ j m, idxOf t.nodes p = some j ∧ t.nodes[j]? = some m ∧
        (((slot ≤ m.slot ∨ 1073741824 < slot) ∧ t.add r p slot = (5, t)) ∨
          (m.slot < slot ∧ slot ≤ 1073741824 ∧ ((t.most ≤ t.nodes.length ∧ t.add r p slot = (6, t)) ∨
            ((t.nodes.length : Int) < t.most ∧ t.add r p slot = (0, { t with nodes := t.nodes ++ [⟨r, slot, (j : Int)⟩] }))))))) := by
  unfold TreeS.add
  by_cases h : (idxOf t.nodes r).isSome = true
  · exact .inl ⟨h, by rw [if_pos h]⟩
  · right
    rw [if_neg h]
    have h0 : idxOf t.nodes r = none := by cases e : idxOf t.nodes r <;> simp_all
    refine ⟨h0, ?_⟩
    cases hp : idxOf t.nodes p with
    | none => exact .inl ⟨rfl, rfl⟩
    | some j =>
      right
      obtain ⟨m, hm, _⟩ := idxOf_some hp
      refine ⟨j, m, rfl, hm, ?_⟩
      simp only [hm, Option.getD_some]
      by_cases hs : slot ≤ m.slot ∨ 1073741824 < slot
      · exact .inl ⟨hs, by rw [if_pos hs]⟩
      · right
        rw [if_neg hs]
        refine ⟨by omega, by omega, ?_⟩
        by_cases hf : t.most ≤ t.nodes.length
        · exact .inl ⟨hf, by rw [if_pos hf]⟩
        · exact .inr ⟨by omega, by rw [if_neg hf]⟩
theorem TreeS.WF.add {t : TreeS} (h : t.WF) (r p : Root) (slot : Int) : (t.add r p slot).2.WF := by
  rcases t.add_cases r p slot with ⟨_, e⟩ | ⟨h0, ⟨_, e⟩ | ⟨j, m, hp, hm, ⟨_, e⟩ | ⟨h1, h2, ⟨_, e⟩ | ⟨h3, e⟩⟩⟩⟩
  · rw [e]; exact h
  · rw [e]; exact h
  · rw [e]; exact h
  · rw [e]; exact h
  · rw [e]
    have hsm := h.sl m (List.mem_of_getElem? hm)
    refine { h with nd := ?_, ne := by simp, le := by simp; omega, sl := ?_, pa := h.pa.append hm rfl h1 }
    · simp only [List.map_append, List.map_cons, List.map_nil]
      rw [List.nodup_append]
      refine ⟨h.nd, by simp, fun a ha b hb => ?_⟩
      simp at hb
      subst hb
      obtain ⟨n, hn, rfl⟩ := List.mem_map.1 ha
      exact idxOf_none.1 h0 n hn
    · intro n hn
      rcases List.mem_append.1 hn with hn | hn
      · exact h.sl n hn
      · simp at hn; subst hn; exact ⟨by dsimp only; omega, h2⟩
theorem TreeS.add_most (t : TreeS) (r p : Root) (slot : Int) : (t.add r p slot).2.most = t.most ∧ ∃ xs, (t.add r p slot).2.nodes = t.nodes ++ xs := by
  rcases t.add_cases r p slot with ⟨_, e⟩ | ⟨h0, ⟨_, e⟩ | ⟨j, m, hp, hm, ⟨_, e⟩ | ⟨h1, h2, ⟨_, e⟩ | ⟨h3, e⟩⟩⟩⟩ <;> rw [e] <;> first | exact ⟨rfl, [], (List.append_nil _).symm⟩ | exact ⟨rfl, _, rfl⟩
/-! up the parents -/
inductive UpTo (ns : List Node) : Nat → Nat → Prop
  | refl {i : Nat} : i < ns.length → UpTo ns i i
  | step {i j k : Nat} {n : Node} : ns[i]? = some n → n.parent = (j : Int) → UpTo ns j k → UpTo ns i k
section
variable {ns : List Node} {i j k a : Nat} {n : Node}
theorem UpTo.lt_left (h : UpTo ns i k) : i < ns.length := by
  cases h with
  | refl h => exact h
  | step h _ _ => exact (List.getElem?_eq_some_iff.1 h).1
theorem UpTo.le (hp : Par ns) (h : UpTo ns i k) : k ≤ i := by
  induction h with
  | refl _ => exact Nat.le_refl _
  | step h1 h2 _ ih =>
    rcases hp _ _ h1 with ⟨_, h3⟩ | ⟨j', m, h3, h4, _, _⟩
    · omega
    · omega
theorem UpTo.lt_right (h : UpTo ns i k) : k < ns.length := by
  induction h with
  | refl h => exact h
  | step _ _ _ ih => exact ih
theorem UpTo.trans (h : UpTo ns i j) (h' : UpTo ns j k) : UpTo ns i k := by
  induction h with
  | refl _ => exact h'
  | step h1 h2 _ ih => exact .step h1 h2 (ih h')
theorem UpTo.antisymm (hp : Par ns) (h : UpTo ns i j) (h' : UpTo ns j i) : i = j := Nat.le_antisymm (h'.le hp) (h.le hp)
theorem UpTo.zero (hp : Par ns) : ∀ i, i < ns.length → UpTo ns i 0 := by
  intro i
  induction i using Nat.strongRecOn with
  | _ i ih =>
    intro hi
    have hg : ns[i]? = some ns[i] := List.getElem?_eq_getElem hi
    rcases hp i _ hg with ⟨rfl, _⟩ | ⟨j, m, h1, h2, h3, _⟩
    · exact .refl hi
    · exact .step hg h1 (ih j h2 (by omega))
theorem UpTo.append {xs : List Node} (h : UpTo ns i k) : UpTo (ns ++ xs) i k := by
  induction h with
  | refl h => exact .refl (by simp; omega)
  | step h1 h2 _ ih => exact .step (by rw [List.getElem?_append_left (List.getElem?_eq_some_iff.1 h1).1]; exact h1) h2 ih
theorem bel_fuel (hp : Par ns) (a : Nat) : ∀ (k k' i : Nat), i < k → i < k' → bel ns a k (i : Int) = bel ns a k' (i : Int) := by
  intro k
  induction k with
  | zero => intro k' i h; omega
  | succ k ih =>
    intro k' i h1 h2
    obtain ⟨k', rfl⟩ : ∃ q, k' = q + 1 := ⟨k' - 1, by omega⟩
    unfold bel
    simp only [Int.toNat_natCast]
    by_cases h3 : (i : Int) < a
    · rw [if_pos h3, if_pos h3]
    · rw [if_neg h3, if_neg h3]
      by_cases h4 : (i : Int) = a
      · rw [if_pos h4, if_pos h4]
      · rw [if_neg h4, if_neg h4]
        cases hg : ns[i]? with
        | none => rfl
        | some n =>
          dsimp only
          rcases hp i n hg with ⟨h5, h6⟩ | ⟨j, m, h5, h6, _, _⟩
          · omega
          · rw [h5]
            exact ih k' j (by omega) (by omega)
/-- whether a place stands at a place, or below it -/
def belI (ns : List Node) (a : Nat) (i : Int) : Bool := bel ns a (i.toNat + 1) i
theorem belI_neg {i0 : Int} (h : i0 < (0 : Int)) : belI ns a i0 = false := by unfold belI bel; rw [if_pos (by omega)]
theorem belI_lt (h : (i : Int) < a) : belI ns a (i : Int) = false := by unfold belI bel; rw [if_pos h]
theorem belI_eq : belI ns a (a : Int) = true := by unfold belI bel; simp
theorem belI_up (hp : Par ns) (hg : ns[i]? = some n) (hne : i ≠ a) : belI ns a (i : Int) = belI ns a n.parent := by
  have hni : (i : Int) ≠ a := by omega
  rcases hp i n hg with ⟨h5, h6⟩ | ⟨j, m, h5, h6, h7, _⟩
  · subst h5
    rw [h6, belI_neg (i0 := -1) (by omega), belI_lt (i := 0) (by omega)]
  · rw [h5]
    by_cases h : (i : Int) < a
    · rw [belI_lt h, belI_lt (by omega)]
    · unfold belI
      conv => lhs; unfold bel
      rw [if_neg h, if_neg hni]
      simp only [Int.toNat_natCast, hg]
      rw [h5]
      exact bel_fuel hp a _ _ j (by omega) (by omega)
theorem belI_iff (hp : Par ns) : ∀ i, i < ns.length → (belI ns a (i : Int) = true ↔ UpTo ns i a) := by
  intro i
  induction i using Nat.strongRecOn with
  | _ i ih =>
    intro hi
    by_cases he : i = a
    · subst he
      exact ⟨fun _ => .refl hi, fun _ => belI_eq⟩
    · have hg : ns[i]? = some ns[i] := List.getElem?_eq_getElem hi
      rw [belI_up hp hg he]
      rcases hp i _ hg with ⟨h5, h6⟩ | ⟨j, m, h5, h6, h7, _⟩
      · rw [h6, belI_neg (by omega)]
        refine ⟨fun h => (by cases h), fun h => ?_⟩
        cases h with
        | refl _ => exact absurd rfl he
        | step h1 h2 _ =>
          rw [hg] at h1; cases h1
          omega
      · rw [h5, ih j h6 (by omega)]
        refine ⟨fun h => .step hg h5 h, fun h => ?_⟩
        cases h with
        | refl _ => exact absurd rfl he
        | step h1 h2 h3 =>
          rw [hg] at h1; cases h1
          have : j = _ := Int.ofNat.inj (h5.symm.trans h2)
          subst this
          exact h3
end
theorem TreeS.below_eq (t : TreeS) (o r : Root) : t.below o r = match idxOf t.nodes o with | some a => belI t.nodes a (t.place r) | none => false := by
  unfold TreeS.below TreeS.place
  cases idxOf t.nodes o with
  | none => cases idxOf t.nodes r <;> rfl
  | some a => cases idxOf t.nodes r with
    | none => exact (belI_neg (by decide)).symm
    | some i => unfold belI; simp only [Int.toNat_natCast]
theorem TreeS.below_iff {t : TreeS} (h : t.WF) (o r : Root) : t.below o r = true ↔ ∃ a i, idxOf t.nodes o = some a ∧ idxOf t.nodes r = some i ∧ UpTo t.nodes i a := by
  unfold TreeS.below
  cases ho : idxOf t.nodes o with
  | none => simp
  | some a => cases hr : idxOf t.nodes r with
    | none => simp
    | some i =>
      have := belI_iff h.pa i (idxOf_lt hr) (a := a)
      unfold belI at this
      simp only [Int.toNat_natCast] at this
      dsimp only
      rw [this]
      constructor
      · intro h; exact ⟨a, i, rfl, rfl, h⟩
      · rintro ⟨a', i', h1, h2, h3⟩; cases h1; cases h2; exact h3
end Go.SL
namespace Go.SL
theorem TreeS.place_iff {t : TreeS} {r : Root} : 0 ≤ t.place r ↔ (idxOf t.nodes r).isSome = true := by
  unfold TreeS.place
  cases idxOf t.nodes r with
  | none => simp
  | some i => simp
theorem TreeS.place_none {t : TreeS} {r : Root} (h : t.place r < 0) : idxOf t.nodes r = none := by
  cases e : idxOf t.nodes r with
  | none => rfl
  | some i => unfold TreeS.place at h; rw [e] at h; dsimp only at h; omega
theorem TreeS.place_some {t : TreeS} {r : Root} (h : 0 ≤ t.place r) : ∃ i : Nat, idxOf t.nodes r = some i ∧ t.place r = (i : Int) := by
  cases e : idxOf t.nodes r with
  | none => unfold TreeS.place at h; rw [e] at h; dsimp only at h; omega
  | some i => exact ⟨i, rfl, by unfold TreeS.place; rw [e]⟩
theorem TreeS.place_lt (t : TreeS) (r : Root) : t.place r < t.nodes.length := by
  unfold TreeS.place
  cases e : idxOf t.nodes r with
  | none => dsimp only; omega
  | some i => have := idxOf_lt e; dsimp only; omega
theorem TreeS.node_place_none {t : TreeS} {r : Root} (h : (t.node (t.place r)).isSome = false) : idxOf t.nodes r = none := by
  cases e : idxOf t.nodes r with
  | none => rfl
  | some i =>
    have hl := idxOf_lt e
    unfold TreeS.node TreeS.place at h
    rw [e] at h
    simp [hl] at h
theorem TreeS.node_place_some {t : TreeS} {r : Root} (h : (t.node (t.place r)).isSome = true) : ∃ j m, idxOf t.nodes r = some j ∧ t.nodes[j]? = some m ∧ t.node (t.place r) = some m := by
  cases e : idxOf t.nodes r with
  | none => unfold TreeS.node TreeS.place at h; rw [e] at h; simp at h
  | some i =>
    have hl := idxOf_lt e
    have hg : t.nodes[i]? = some t.nodes[i] := List.getElem?_eq_getElem hl
    refine ⟨i, t.nodes[i], rfl, hg, ?_⟩
    unfold TreeS.node TreeS.place
    rw [e]
    simp [hg]
theorem TreeS.WF.par_rg {t : TreeS} (h : t.WF) {i : Nat} {n : Node} (hg : t.nodes[i]? = some n) : -1 ≤ n.parent ∧ n.parent < i := by
  rcases h.pa i n hg with ⟨h1, h2⟩ | ⟨j, m, h1, h2, _, _⟩ <;> omega
theorem belI_low {ns : List Node} {a : Nat} {i : Int} (h : i < a) : belI ns a i = false := by unfold belI bel; rw [if_pos h]
end Go.SL
namespace Go.SL
/-! ### the reference's tree: rows of names -/
def ridx (R : List Root) (r : Root) : Option Nat := R.findIdx? fun x => decide (x = r)
def rplace (R : List Root) (r : Root) : Int := match ridx R r with | some i => (i : Int) | none => -1
theorem ridx_map (ns : List Node) (r : Root) : ridx (ns.map (·.root)) r = idxOf ns r := by
  unfold ridx idxOf
  rw [List.findIdx?_map]
  rfl
theorem rplace_map (t : TreeS) (r : Root) : rplace (t.nodes.map (·.root)) r = t.place r := by unfold rplace TreeS.place; rw [ridx_map]
theorem ridx_first {R : List Root} {r : Root} {i : Nat} (hi : i < R.length) (h : R[i] = r) (hno : ∀ j (hj : j < R.length), j < i → R[j] ≠ r) : ridx R r = some i := by
  unfold ridx
  rw [List.findIdx?_eq_some_iff_getElem]
  exact ⟨hi, by simpa using h, fun j hj => by simpa using hno j (by omega) hj⟩
theorem ridx_no {R : List Root} {r : Root} (hno : ∀ j (hj : j < R.length), R[j] ≠ r) : ridx R r = none := by
  unfold ridx
  rw [List.findIdx?_eq_none_iff]
  intro x hx
  obtain ⟨j, hj, rfl⟩ := List.mem_iff_getElem.1 hx
  simpa using hno j hj
def parR (ns : List Node) : List Root := ns.map fun n => if 0 ≤ n.parent then ((ns[n.parent.toNat]?).getD nodeNo).root else Root.zero
structure RTreeOf (t : TreeS) (R : List Root) (Sl : List Int) (Pa : List Root) : Prop where
  r : R = t.nodes.map (·.root)
  s : Sl = t.nodes.map (·.slot)
  p : Pa = parR t.nodes
def TreeS.up (t : TreeS) (i : Int) : Int := if 0 ≤ i then ((t.nodes[i.toNat]?).getD nodeNo).parent else -1
theorem parR_append {ns : List Node} (hp : Par ns) {x m : Node} {j : Nat} (hj : ns[j]? = some m) (hx : x.parent = (j : Int)) : parR (ns ++ [x]) = parR ns ++ [m.root] := by
  unfold parR
  rw [List.map_append]
  congr 1
  · apply List.map_congr_left
    intro n hn
    obtain ⟨i, hi, rfl⟩ := List.mem_iff_getElem.1 hn
    rcases hp i _ (List.getElem?_eq_getElem hi) with ⟨_, h2⟩ | ⟨j', m', h1, h2, h3, _⟩
    · rw [h2]; rfl
    · rw [h1]
      simp only [Int.toNat_natCast]
      rw [List.getElem?_append_left (by omega)]
  · have hjl := (List.getElem?_eq_some_iff.1 hj).1
    simp only [List.map_cons, List.map_nil, hx, Int.toNat_natCast]
    rw [if_pos (by omega), List.getElem?_append_left hjl, hj]
    rfl
theorem up_eq {t : TreeS} (hw : t.WF) {i : Nat} (hi : i < t.nodes.length) (h0 : 0 < i) (hi' : i < (parR t.nodes).length) : rplace (t.nodes.map (·.root)) (parR t.nodes)[i] = t.up i := by
  have hg : t.nodes[i]? = some t.nodes[i] := List.getElem?_eq_getElem hi
  rw [rplace_map]
  unfold TreeS.up
  rw [if_pos (by omega), Int.toNat_natCast, hg, Option.getD_some]
  rcases hw.pa i _ hg with ⟨h1, _⟩ | ⟨j, m, h1, h2, h3, _⟩
  · omega
  · have : (parR t.nodes)[i] = m.root := by
      have e : (parR t.nodes)[i] = if 0 ≤ (t.nodes[i]).parent then ((t.nodes[(t.nodes[i]).parent.toNat]?).getD nodeNo).root else Root.zero := by simp only [parR, List.getElem_map]
      rw [e, h1, if_pos (by omega), Int.toNat_natCast, h3]
      rfl
    rw [this, h1]
    unfold TreeS.place
    rw [idxOf_get hw.nd h3]
theorem TreeS.up_rg {t : TreeS} (h : t.WF) {i : Nat} (hi : i < t.nodes.length) : -1 ≤ t.up i ∧ t.up i < i := by
  unfold TreeS.up
  rw [if_pos (by omega), Int.toNat_natCast, List.getElem?_eq_getElem hi, Option.getD_some]
  exact h.par_rg (List.getElem?_eq_getElem hi)
theorem TreeS.WF.up0 {t : TreeS} (h : t.WF) : t.up 0 = -1 := by
  unfold TreeS.up
  rw [if_pos (by omega)]
  have hg : t.nodes[0]? = some (t.nodes[0]'h.ne) := List.getElem?_eq_getElem h.ne
  show ((t.nodes[0]?).getD nodeNo).parent = -1
  rw [hg, Option.getD_some]
  rcases h.pa 0 _ hg with ⟨_, h2⟩ | ⟨j, m, h1, h2, _⟩
  · exact h2
  · omega
theorem TreeS.up_zero {t : TreeS} (h : t.WF) : t.up 0 = -1 := by
  unfold TreeS.up
  rw [if_pos (by omega)]
  have hg : t.nodes[0]? = some (t.nodes[0]'h.ne) := List.getElem?_eq_getElem h.ne
  show ((t.nodes[0]?).getD nodeNo).parent = -1
  rw [hg, Option.getD_some]
  rcases h.pa 0 _ hg with ⟨_, h2⟩ | ⟨j, m, h1, h2, _⟩
  · exact h2
  · omega
theorem TreeS.up_far {t : TreeS} {i : Int} (h : (t.nodes.length : Int) ≤ i) : t.up i = -1 := by
  unfold TreeS.up
  rw [if_pos (by omega), List.getElem?_eq_none (by omega)]
  rfl
theorem TreeS.up_out {t : TreeS} (hw : t.WF) {i : Int} (h : i ≤ 0 ∨ (t.nodes.length : Int) ≤ i) : t.up i = -1 := by
  rcases h with h | h
  · rcases Int.lt_or_eq_of_le h with h | h
    · unfold TreeS.up; rw [if_neg (by omega)]
    · rw [h]; exact hw.up0
  · exact TreeS.up_far h
theorem root_at {t : TreeS} (hw : t.WF) {o : Root} {a i : Nat} (ho : idxOf t.nodes o = some a) (hi : i < t.nodes.length) : (t.nodes[i].root = o ↔ i = a) := by
  obtain ⟨n, h1, h2⟩ := idxOf_some ho
  constructor
  · intro h
    have h3 := idxOf_get hw.nd (List.getElem?_eq_getElem hi)
    rw [h, ho] at h3
    cases h3; rfl
  · rintro rfl
    rw [List.getElem?_eq_getElem hi] at h1
    cases h1
    exact h2
end Go.SL
namespace Go.SL
/-- the children among the first places -/
def kidsTo (ns : List Node) (r : Root) (i : Nat) : List Root := match idxOf ns r with | some a => ((ns.take i).filter fun n => decide (n.parent = (a : Int))).map (·.root) | none => []
theorem kidsTo_all (t : TreeS) (r : Root) : kidsTo t.nodes r t.nodes.length = t.kids r := by
  unfold kidsTo TreeS.kids
  rw [List.take_length]
theorem kidsTo_none {ns : List Node} {r : Root} (h : idxOf ns r = none) (i : Nat) : kidsTo ns r i = [] := by unfold kidsTo; rw [h]
theorem kidsTo_succ {ns : List Node} {r : Root} {a : Nat} (h : idxOf ns r = some a) {i : Nat} (hi : i < ns.length) : kidsTo ns r (i + 1) = if ns[i].parent = (a : Int) then kidsTo ns r i ++ [ns[i].root] else kidsTo ns r i := by
  unfold kidsTo
  rw [h]
  dsimp only
  rw [List.take_add_one, List.getElem?_eq_getElem hi, Option.toList_some, List.filter_append, List.map_append]
  by_cases hp : ns[i].parent = (a : Int)
  · rw [if_pos hp, List.filter_cons_of_pos (by simpa using hp)]; rfl
  · rw [if_neg hp, List.filter_cons_of_neg (by simpa using hp)]; simp
theorem kidsTo_low {ns : List Node} (hp : Par ns) {r : Root} {a : Nat} (h : idxOf ns r = some a) {i : Nat} (hi : i ≤ a + 1) : kidsTo ns r i = [] := by
  unfold kidsTo
  rw [h]
  dsimp only
  rw [List.map_eq_nil_iff, List.filter_eq_nil_iff]
  intro n hn
  obtain ⟨j, hj, rfl⟩ := List.mem_iff_getElem.1 hn
  have hj2 : j < i ∧ j < ns.length := by simp at hj; omega
  rw [List.getElem_take]
  rcases hp j _ (List.getElem?_eq_getElem hj2.2) with ⟨_, h2⟩ | ⟨k, m, h1, h2, _⟩
  · simp; omega
  · simp; omega
theorem kidsTo_len (ns : List Node) (r : Root) (i : Nat) : (kidsTo ns r i).length ≤ ns.length := by
  unfold kidsTo
  split
  · rw [List.length_map]
    exact Nat.le_trans (List.length_filter_le _ _) (by simp; omega)
  · exact Nat.zero_le _
theorem kids_len (t : TreeS) (r : Root) : (t.kids r).length ≤ t.nodes.length := by rw [← kidsTo_all]; exact kidsTo_len _ _ _
/-- at a place behind the first one: whose child it is -/
theorem par_kid {t : TreeS} (hw : t.WF) {r : Root} {i : Nat} (hi : i < t.nodes.length) (h0 : 0 < i) (hi' : i < (parR t.nodes).length) (a : Nat) (ha : idxOf t.nodes r = some a) : ((parR t.nodes)[i] = r ↔ t.nodes[i].parent = (a : Int)) := by
  rcases hw.pa i _ (List.getElem?_eq_getElem hi) with ⟨h1, _⟩ | ⟨j, m, h1, h2, h3, _⟩
  · omega
  · have e : (parR t.nodes)[i] = m.root := by
      have e : (parR t.nodes)[i] = if 0 ≤ (t.nodes[i]).parent then ((t.nodes[(t.nodes[i]).parent.toNat]?).getD nodeNo).root else Root.zero := by simp only [parR, List.getElem_map]
      rw [e, h1, if_pos (by omega), Int.toNat_natCast, h3]
      rfl
    rw [e, h1]
    have hm := idxOf_get hw.nd h3
    constructor
    · intro he; rw [he, ha] at hm; cases hm; rfl
    · intro he
      have : j = a := by omega
      subst this
      obtain ⟨n, h4, h5⟩ := idxOf_some ha
      rw [h3] at h4; cases h4; exact h5
def TreeS.adds (t : TreeS) : List TAdd → TreeS
  | [] => t
  | a :: r => TreeS.adds (t.add (nameR a.root) (nameR a.parent) a.slot).2 r
theorem TreeS.adds_append (t : TreeS) (x y : List TAdd) : t.adds (x ++ y) = (t.adds x).adds y := by
  induction x generalizing t with
  | nil => rfl
  | cons v r ih => exact ih _
theorem TreeS.adds_succ (t : TreeS) (xs : List TAdd) (i : Nat) (h : i < xs.length) : t.adds (xs.take (i + 1)) = ((t.adds (xs.take i)).add (nameR xs[i].root) (nameR xs[i].parent) xs[i].slot).2 := by
  rw [List.take_add_one, List.getElem?_eq_getElem h, Option.toList_some, TreeS.adds_append]
  rfl
theorem TreeS.adds_more (t : TreeS) (xs : List TAdd) : (t.adds xs).most = t.most ∧ ∃ ys, (t.adds xs).nodes = t.nodes ++ ys := by
  induction xs generalizing t with
  | nil => exact ⟨rfl, [], (List.append_nil _).symm⟩
  | cons a r ih =>
    obtain ⟨h1, ys, h2⟩ := ih (t.add (nameR a.root) (nameR a.parent) a.slot).2
    obtain ⟨h3, zs, h4⟩ := t.add_most (nameR a.root) (nameR a.parent) a.slot
    exact ⟨h1.trans h3, zs ++ ys, by rw [TreeS.adds, h2, h4, List.append_assoc]⟩
theorem TreeS.WF.adds {t : TreeS} (h : t.WF) (xs : List TAdd) : (t.adds xs).WF := by
  induction xs generalizing t with
  | nil => exact h
  | cons a r ih => exact ih (h.add _ _ _)
theorem TreeS.node_nat {t : TreeS} {i : Nat} (h : i < t.nodes.length) : t.node (i : Int) = some t.nodes[i] := by
  unfold TreeS.node
  rw [if_pos (by omega), Int.toNat_natCast, List.getElem?_eq_getElem h]
/-- a parent stands earlier, and below it stands its child -/
theorem order_step {t : TreeS} (hw : t.WF) {i : Nat} (hi : i < t.nodes.length) (h0 : 0 < i) : ∃ m, t.node (t.nodes[i].parent) = some m ∧ t.nodes[i].parent < i ∧ m.slot < t.nodes[i].slot := by
  rcases hw.pa i _ (List.getElem?_eq_getElem hi) with ⟨h1, _⟩ | ⟨j, m, h1, h2, h3, h4⟩
  · omega
  · refine ⟨m, ?_, by omega, h4⟩
    rw [h1]
    unfold TreeS.node
    rw [if_pos (by omega), Int.toNat_natCast, h3]
theorem below_first {t : TreeS} (hw : t.WF) {i : Nat} (hi : i < t.nodes.length) (h0 : 0 < t.nodes.length) : t.below (t.nodes[0]).root t.nodes[i].root = true :=
  (TreeS.below_iff hw _ _).2 ⟨0, i, idxOf_get hw.nd (List.getElem?_eq_getElem h0), idxOf_get hw.nd (List.getElem?_eq_getElem hi), UpTo.zero hw.pa i hi⟩
theorem below_trans {t : TreeS} (hw : t.WF) {x y z : Root} (h1 : t.below x y = true) (h2 : t.below y z = true) : t.below x z = true := by
  obtain ⟨a, i, ha, hi, hu⟩ := (TreeS.below_iff hw _ _).1 h1
  obtain ⟨b, j, hb, hj, hv⟩ := (TreeS.below_iff hw _ _).1 h2
  rw [hi] at hb; cases hb
  exact (TreeS.below_iff hw _ _).2 ⟨a, j, ha, hj, hv.trans hu⟩
theorem below_anti {t : TreeS} (hw : t.WF) {x y : Root} (h1 : t.below x y = true) (h2 : t.below y x = true) : x = y := by
  obtain ⟨a, i, ha, hi, hu⟩ := (TreeS.below_iff hw _ _).1 h1
  obtain ⟨b, j, hb, hj, hv⟩ := (TreeS.below_iff hw _ _).1 h2
  rw [hi] at hb; cases hb
  rw [ha] at hj; cases hj
  have := hu.antisymm hw.pa hv
  subst this
  obtain ⟨n, h3, h4⟩ := idxOf_some ha
  obtain ⟨m, h5, h6⟩ := idxOf_some hi
  rw [h3] at h5; cases h5
  exact h4.symm.trans h6
/-! a row, each block behind the one ahead -/
theorem nameR_inj {a b : Nat} (ha : a < 256) (hb : b < 256) (h : nameR (a : Int) = nameR (b : Int)) : a = b := by
  have h1 : ∀ n : Nat, n < 256 → (nameR (n : Int)).1[0]? = some (UInt8.ofNat n) := fun n hn => by
    unfold nameR Root.set Root.zero
    simp only []
    rw [List.getElem?_set_ne (by omega)]
    simp [byteI]
    congr 1
    omega
  have h2 := congrArg (fun r : Root => r.1[0]?) h
  simp only [h1 a ha, h1 b hb, Option.some.injEq] at h2
  have := congrArg UInt8.toNat h2
  simp only [UInt8.toNat_ofNat'] at this
  omega
def chain (n : Nat) : List Node := (List.range n).map fun j : Nat => ⟨nameR (j : Int), (j : Int), (j : Int) - 1⟩
theorem chain_succ (n : Nat) : chain (n + 1) = chain n ++ [⟨nameR (n : Int), (n : Int), (n : Int) - 1⟩] := by simp [chain, List.range_succ]
theorem chain_len (n : Nat) : (chain n).length = n := by simp [chain]
theorem chain_get {n j : Nat} (h : j < n) : (chain n)[j]? = some ⟨nameR (j : Int), (j : Int), (j : Int) - 1⟩ := by simp [chain, h]
theorem chain_idx {n j : Nat} (h : j < n) (hn : n ≤ 256) : idxOf (chain n) (nameR (j : Int)) = some j := by
  have hd : ((chain n).map (·.root)).Nodup := by
    rw [List.nodup_iff_pairwise_ne, chain, List.map_map, List.pairwise_map]
    refine List.Pairwise.imp_of_mem ?_ (List.nodup_iff_pairwise_ne.1 List.nodup_range)
    intro a b ha hb hne he
    simp at ha hb
    exact hne (nameR_inj (by omega) (by omega) he)
  exact idxOf_get hd (n := ⟨nameR (j : Int), (j : Int), (j : Int) - 1⟩) (chain_get h)
theorem chain_no {n j : Nat} (h : n ≤ j) (hj : j < 256) : idxOf (chain n) (nameR (j : Int)) = none := by
  rw [idxOf_none]
  intro m hm he
  simp [chain] at hm
  obtain ⟨a, ha, rfl⟩ := hm
  have := nameR_inj (a := a) (b := j) (by omega) hj he
  omega
theorem chain_add {n : Nat} {most : Int} (h0 : 0 < n) (hn : (n : Int) < most) (hm : most ≤ 256) : (⟨chain n, most⟩ : TreeS).add (nameR (n : Int)) (nameR (((n : Int) - 1))) (n : Int) = (0, ⟨chain (n + 1), most⟩) := by
  obtain ⟨m, rfl⟩ : ∃ m, n = m + 1 := ⟨n - 1, by omega⟩
  have e1 : ((m + 1 : Nat) : Int) - 1 = (m : Int) := by omega
  unfold TreeS.add
  simp only [e1]
  rw [chain_no (Nat.le_refl _) (by omega), chain_idx (by omega) (by omega)]
  simp only [Option.isSome_none, Bool.false_eq_true, if_false, chain_get (show m < m + 1 by omega), Option.getD_some, chain_len]
  rw [if_neg (by omega), if_neg (by omega), chain_succ (m + 1), e1]
theorem chain_full {n k : Nat} {most : Int} (h0 : 0 < n) (hn : (n : Int) = most) (hk : n ≤ k) (hk2 : k < 256) : (⟨chain n, most⟩ : TreeS).add (nameR (k : Int)) (nameR (((n : Int) - 1))) (k : Int) = (6, ⟨chain n, most⟩) := by
  obtain ⟨m, rfl⟩ : ∃ m, n = m + 1 := ⟨n - 1, by omega⟩
  have e1 : ((m + 1 : Nat) : Int) - 1 = (m : Int) := by omega
  unfold TreeS.add
  simp only [e1]
  rw [chain_no hk hk2, chain_idx (by omega) (by omega)]
  simp only [Option.isSome_none, Bool.false_eq_true, if_false, chain_get (show m < m + 1 by omega), Option.getD_some, chain_len]
  rw [if_neg (by omega), if_pos (by omega)]
end Go.SL
