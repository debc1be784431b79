import Derived.Test.YtkgnmkklldpbgaaEnh
set_option linter.unusedVariables false
set_option linter.unusedSimpArgs false
namespace Go.SL
/-! ### The table, in plain Lean -/
structure TabS where
  slots : Int
  latest : List (Option Vote)
  out : List Bool
  first : List ((Int × Int) × Root)
def TabS.isV (t : TabS) (who : Int) : Bool := decide (0 ≤ who) && decide (who < t.latest.length)
def TabS.take (t : TabS) (v : Vote) : Int × TabS :=
  if t.isV v.who = false ∨ v.slot < 0 ∨ 1073741824 < v.slot then (5, t)
  else if t.out.getD v.who.toNat false = true then (4, t)
  else match look t.first (v.who, v.slot / t.slots) with
    | some r => if r = v.target then (1, t) else (2, { t with out := t.out.set v.who.toNat true })
    | none =>
      match t.latest.getD v.who.toNat none with
      | some o => if v.slot / t.slots < o.slot / t.slots then (3, { t with first := ins t.first (v.who, v.slot / t.slots) v.target })
          else (0, { t with first := ins t.first (v.who, v.slot / t.slots) v.target, latest := t.latest.set v.who.toNat (some v) })
      | none => (0, { t with first := ins t.first (v.who, v.slot / t.slots) v.target, latest := t.latest.set v.who.toNat (some v) })
def TabS.vote (t : TabS) (who : Int) : Option Vote := if t.isV who = true then t.latest.getD who.toNat none else none
def TabS.counts (t : TabS) (who : Int) : Bool := t.isV who && !t.out.getD who.toNat false
def TabS.forget (t : TabS) (slot : Int) : TabS := if slot < 0 then t else { t with first := t.first.filter fun p => decide (slot / t.slots ≤ p.1.2) }
def TabS.new (n : Nat) (slots : Int) : TabS := ⟨slots, List.replicate n none, List.replicate n false, []⟩
structure TabS.WF (t : TabS) : Prop where
  s1 : 1 ≤ t.slots
  s2 : t.slots ≤ 32
  n1 : t.latest.length ≤ 64
  lo : t.out.length = t.latest.length
  nd : (t.first.map (·.1)).Nodup
  rg : ∀ p ∈ t.first, 0 ≤ p.1.1 ∧ p.1.1 < 64 ∧ 0 ≤ p.1.2 ∧ p.1.2 ≤ 1073741824
  sl : ∀ v, some v ∈ t.latest → 0 ≤ v.slot ∧ v.slot ≤ 1073741824

theorem ins_none {K V : Type} [DecidableEq K] {kvs : List (K × V)} {k : K} {v : V} (h : look kvs k = none) : ins kvs k v = kvs ++ [(k, v)] := by unfold ins; rw [h]; rfl
theorem look_none_iff {K V : Type} [DecidableEq K] {kvs : List (K × V)} {k : K} : look kvs k = none ↔ ∀ p ∈ kvs, p.1 ≠ k := by
  unfold look
  simp [List.find?_eq_none]
theorem look_mem {K V : Type} [DecidableEq K] {kvs : List (K × V)} {k : K} {v : V} (h : look kvs k = some v) : (k, v) ∈ kvs := by
  unfold look at h
  obtain ⟨p, hp, rfl⟩ := Option.map_eq_some_iff.1 h
  have h1 := List.find?_some hp
  have h2 := List.mem_of_find?_eq_some hp
  simp at h1
  subst h1
  exact h2
theorem ep_le {s k : Int} (h0 : 0 ≤ s) (hs : s ≤ 1073741824) (hk : 1 ≤ k) : 0 ≤ s / k ∧ s / k ≤ 1073741824 := by
  have h3 : s / k ≤ s := Int.ediv_le_self k h0
  have h4 : 0 ≤ s / k := Int.ediv_nonneg h0 (by omega)
  omega
theorem TabS.isV_iff {t : TabS} {w : Int} : t.isV w = true ↔ 0 ≤ w ∧ w < t.latest.length := by simp [TabS.isV]
theorem mem_set_some {l : List (Option Vote)} {i : Nat} {v x : Vote} (h : some x ∈ l.set i (some v)) : x = v ∨ some x ∈ l := by
  rcases List.mem_or_eq_of_mem_set h with h | h
  · exact .inr h
  · simp at h; exact .inl h
theorem TabS.WF.first_ins {t : TabS} (h : t.WF) {w e : Int} {r : Root} (hw : 0 ≤ w ∧ w < 64) (he : 0 ≤ e ∧ e ≤ 1073741824) (hl : look t.first (w, e) = none) :
    ((ins t.first (w, e) r).map (·.1)).Nodup ∧ ∀ p ∈ ins t.first (w, e) r, 0 ≤ p.1.1 ∧ p.1.1 < 64 ∧ 0 ≤ p.1.2 ∧ p.1.2 ≤ 1073741824 := by
  rw [ins_none hl]
  constructor
  · rw [List.map_append, List.nodup_append]
    refine ⟨h.nd, by simp, fun a ha b hb => ?_⟩
    simp at hb
    subst hb
    obtain ⟨p, hp, rfl⟩ := List.mem_map.1 ha
    exact look_none_iff.1 hl p hp
  · intro p hp
    rcases List.mem_append.1 hp with hp | hp
    · exact h.rg p hp
    · simp at hp; subst hp
      exact ⟨hw.1, hw.2, he.1, he.2⟩
theorem TabS.WF.take {t : TabS} (h : t.WF) (v : Vote) : (t.take v).2.WF := by
  unfold TabS.take
  split
  · exact h
  · rename_i hc
    split
    · exact h
    · have hv : t.isV v.who = true := by cases e : t.isV v.who <;> simp_all
      rw [TabS.isV_iff] at hv
      have hn := h.n1
      have hs0 : 0 ≤ v.slot := by
        rcases Int.lt_or_le v.slot 0 with h0 | h0
        · exact absurd (.inr (.inl h0)) hc
        · exact h0
      have hs1 : v.slot ≤ 1073741824 := by
        rcases Int.lt_or_le 1073741824 v.slot with h0 | h0
        · exact absurd (.inr (.inr h0)) hc
        · exact h0
      have he := ep_le hs0 hs1 h.s1
      split
      · split
        · exact h
        · exact { h with lo := by simp [h.lo] }
      · rename_i hl
        obtain ⟨h1, h2⟩ := h.first_ins (r := v.target) (w := v.who) ⟨hv.1, by omega⟩ he hl
        split
        · split
          · exact { h with nd := h1, rg := h2 }
          · refine { h with nd := h1, rg := h2, n1 := by simp [h.n1], lo := by simp [h.lo], sl := fun x hx => ?_ }
            rcases mem_set_some hx with rfl | hx
            · exact ⟨hs0, hs1⟩
            · exact h.sl x hx
        · refine { h with nd := h1, rg := h2, n1 := by simp [h.n1], lo := by simp [h.lo], sl := fun x hx => ?_ }
          rcases mem_set_some hx with rfl | hx
          · exact ⟨hs0, hs1⟩
          · exact h.sl x hx
theorem TabS.WF.forget {t : TabS} (h : t.WF) (s : Int) : (t.forget s).WF := by
  unfold TabS.forget
  split
  · exact h
  · exact { h with nd := h.nd.sublist ((List.filter_sublist (l := t.first)).map _), rg := fun p hp => h.rg p (List.mem_filter.1 hp).1 }
theorem TabS.WF.new {n : Nat} {s : Int} (hn : n ≤ 64) (h1 : 1 ≤ s) (h2 : s ≤ 32) : (TabS.new n s).WF :=
  ⟨h1, h2, by simpa [TabS.new] using hn, by simp [TabS.new], by simp [TabS.new], by simp [TabS.new], by simp [TabS.new]⟩
theorem TabS.take_slots (t : TabS) (v : Vote) : (t.take v).2.slots = t.slots ∧ (t.take v).2.latest.length = t.latest.length := by
  unfold TabS.take
  repeat' split
  all_goals simp
theorem TabS.forget_slots (t : TabS) (s : Int) : (t.forget s).slots = t.slots ∧ (t.forget s).latest = t.latest ∧ (t.forget s).out = t.out := by
  unfold TabS.forget
  split <;> simp
end Go.SL
set_option linter.unusedVariables false
set_option linter.unusedSimpArgs false
namespace Go.SL
theorem getD_set_self {α : Type} (l : List α) (i : Nat) (a d : α) (h : i < l.length) : (l.set i a).getD i d = a := by simp [List.getD_eq_getElem?_getD, h]
theorem getD_set_ne {α : Type} (l : List α) (i j : Nat) (a d : α) (h : i ≠ j) : (l.set i a).getD j d = l.getD j d := by simp [List.getD_eq_getElem?_getD, List.getElem?_set_ne h]
theorem bool_not_false {b : Bool} (h : ¬ b = false) : b = true := by cases b <;> simp_all
theorem bool_not_true {b : Bool} (h : ¬ b = true) : b = false := by cases b <;> simp_all
/-- the ways of a vote -/
theorem TabS.take_cases (t : TabS) (v : Vote) (h : t.WF) :
    ((t.isV v.who = false ∨ v.slot < 0 ∨ 1073741824 < v.slot) ∧ t.take v = (5, t)) ∨
    ((0 ≤ v.who ∧ v.who < t.latest.length ∧ 0 ≤ v.slot ∧ v.slot ≤ 1073741824) ∧
      ((t.out.getD v.who.toNat false = true ∧ t.take v = (4, t)) ∨
       (t.out.getD v.who.toNat false = false ∧
        ((∃ r, look t.first (v.who, v.slot / t.slots) = some r ∧ ((r = v.target ∧ t.take v = (1, t)) ∨ (r ≠ v.target ∧ t.take v = (2, { t with out := t.out.set v.who.toNat true })))) ∨
         (look t.first (v.who, v.slot / t.slots) = none ∧
          ((∃ o, t.latest.getD v.who.toNat none = some o ∧ v.slot / t.slots < o.slot / t.slots ∧ t.take v = (3, { t with first := t.first ++ [((v.who, v.slot / t.slots), v.target)] })) ∨
           ((∀ o, t.latest.getD v.who.toNat none = some o → o.slot / t.slots ≤ v.slot / t.slots) ∧ t.take v = (0, { t with first := t.first ++ [((v.who, v.slot / t.slots), v.target)], latest := t.latest.set v.who.toNat (some v) })))))))) := by
  by_cases hc : t.isV v.who = false ∨ v.slot < 0 ∨ 1073741824 < v.slot
  · left
    exact ⟨hc, by unfold TabS.take; rw [if_pos hc]⟩
  · right
    have hv : t.isV v.who = true := bool_not_false fun e => hc (.inl e)
    have h1 : ¬ v.slot < 0 := fun e => hc (.inr (.inl e))
    have h2 : ¬ 1073741824 < v.slot := fun e => hc (.inr (.inr e))
    rw [TabS.isV_iff] at hv
    refine ⟨⟨hv.1, hv.2, by omega, by omega⟩, ?_⟩
    by_cases ho : t.out.getD v.who.toNat false = true
    · exact .inl ⟨ho, by unfold TabS.take; rw [if_neg hc, if_pos ho]⟩
    · right
      refine ⟨bool_not_true ho, ?_⟩
      have e : t.take v = match look t.first (v.who, v.slot / t.slots) with
        | some r => if r = v.target then (1, t) else (2, { t with out := t.out.set v.who.toNat true })
        | none =>
          match t.latest.getD v.who.toNat none with
          | some o => if v.slot / t.slots < o.slot / t.slots then (3, { t with first := ins t.first (v.who, v.slot / t.slots) v.target })
              else (0, { t with first := ins t.first (v.who, v.slot / t.slots) v.target, latest := t.latest.set v.who.toNat (some v) })
          | none => (0, { t with first := ins t.first (v.who, v.slot / t.slots) v.target, latest := t.latest.set v.who.toNat (some v) }) := by
        conv => lhs; unfold TabS.take
        rw [if_neg hc, if_neg ho]
      rw [e]
      cases hl : look t.first (v.who, v.slot / t.slots) with
      | some r =>
        left
        refine ⟨r, rfl, ?_⟩
        by_cases hr : r = v.target
        · exact .inl ⟨hr, by simp [hr]⟩
        · exact .inr ⟨hr, by simp [hr]⟩
      | none =>
        right
        refine ⟨rfl, ?_⟩
        rw [ins_none hl]
        cases hg : t.latest.getD v.who.toNat none with
        | none => exact .inr ⟨fun o ho => (by cases ho), rfl⟩
        | some o =>
          by_cases hlt : v.slot / t.slots < o.slot / t.slots
          · exact .inl ⟨o, rfl, hlt, by simp [hlt]⟩
          · exact .inr ⟨fun o' ho' => by cases ho'; omega, by simp [hlt]⟩
theorem TabS.counts_true {t : TabS} {w : Int} : t.counts w = true ↔ t.isV w = true ∧ t.out.getD w.toNat false = false := by simp [TabS.counts]
theorem TabS.counts_false {t : TabS} {w : Int} : t.counts w = false ↔ t.isV w = false ∨ t.out.getD w.toNat false = true := by
  unfold TabS.counts
  cases t.isV w <;> cases t.out.getD w.toNat false <;> simp
theorem TabS.vote_none {t : TabS} {w : Int} (h : t.isV w = false) : t.vote w = none := by simp [TabS.vote, h]
theorem TabS.vote_at {t : TabS} {w : Int} (h : 0 ≤ w ∧ w < t.latest.length) : t.vote w = t.latest.getD w.toNat none := by
  rw [TabS.vote, if_pos (TabS.isV_iff.2 h)]
/-- once -/
theorem TabS.once (t : TabS) (v : Vote) (h : t.WF) :
    ((t.take v).2.counts v.who = true → t.counts v.who = true) ∧ ((t.take v).1 = 2 ↔ t.counts v.who = true ∧ (t.take v).2.counts v.who = false) ∧
    ((t.take v).1 = 0 → (t.take v).2.vote v.who = some v ∧ ∀ o, t.vote v.who = some o → o.slot / t.slots ≤ v.slot / t.slots) ∧ ((t.take v).1 ≠ 0 → (t.take v).2.vote v.who = t.vote v.who) := by
  rcases TabS.take_cases t v h with ⟨h1, h2⟩ | ⟨⟨h1, h2, h3, h4⟩, h5⟩
  · rw [h2]
    refine ⟨fun h => h, ⟨fun h => (by simp at h), fun ⟨a, b⟩ => ?_⟩, fun h => by simp at h, fun _ => rfl⟩
    rw [a] at b; cases b
  · have hv : t.isV v.who = true := TabS.isV_iff.2 ⟨h1, h2⟩
    have hlt : v.who.toNat < t.latest.length := by omega
    have hlo := h.lo
    rcases h5 with ⟨h6, h7⟩ | ⟨h6, ⟨r, h7, ⟨h8, h9⟩ | ⟨h8, h9⟩⟩ | ⟨h7, ⟨o, h8, h9, h10⟩ | ⟨h8, h9⟩⟩⟩
    · rw [h7]
      refine ⟨fun h => h, ⟨fun h => (by simp at h), fun ⟨a, b⟩ => ?_⟩, fun h => by simp at h, fun _ => rfl⟩
      rw [a] at b; cases b
    · rw [h9]
      refine ⟨fun h => h, ⟨fun h => (by simp at h), fun ⟨a, b⟩ => ?_⟩, fun h => by simp at h, fun _ => rfl⟩
      rw [a] at b; cases b
    · rw [h9]
      have hc : t.counts v.who = true := TabS.counts_true.2 ⟨hv, h6⟩
      refine ⟨fun _ => hc, ⟨fun _ => ⟨hc, ?_⟩, fun _ => rfl⟩, fun h => by simp at h, fun _ => rfl⟩
      rw [TabS.counts_false]
      right
      exact getD_set_self _ _ _ _ (by omega)
    · rw [h10]
      refine ⟨fun h => h, ⟨fun h => (by simp at h), fun ⟨a, b⟩ => ?_⟩, fun h => by simp at h, fun _ => rfl⟩
      have b' : t.counts v.who = false := b
      rw [a] at b'; cases b'
    · rw [h9]
      have hv' : ({ t with first := t.first ++ [((v.who, v.slot / t.slots), v.target)], latest := t.latest.set v.who.toNat (some v) } : TabS).isV v.who = t.isV v.who := by simp [TabS.isV]
      refine ⟨fun h => ?_, ⟨fun h => (by simp at h), fun ⟨a, b⟩ => ?_⟩, fun _ => ⟨?_, fun o ho => ?_⟩, fun h => by simp at h⟩
      · rw [TabS.counts_true] at h ⊢
        exact ⟨hv, h.2⟩
      · rw [TabS.counts_true] at a
        rw [TabS.counts_false] at b
        rcases b with b | b
        · rw [hv', hv] at b; cases b
        · have b' : t.out.getD v.who.toNat false = true := b
          rw [a.2] at b'; cases b'
      · rw [TabS.vote, hv', if_pos hv]
        exact getD_set_self _ _ _ _ hlt
      · rw [TabS.vote_at ⟨h1, h2⟩] at ho
        exact h8 o ho
theorem TabS.once2 (t : TabS) (v : Vote) (h : t.WF) :
    ((t.take v).2.counts v.who = true → t.counts v.who = true) ∧ ((t.take v).1 = 2 ↔ t.counts v.who = true ∧ (t.take v).2.counts v.who = false) ∧
    ((t.take v).1 = 0 → (t.take v).2.vote v.who = some v ∧ ∀ o, t.vote v.who = some o → o.slot / t.slots ≤ v.slot / t.slots) ∧ ((t.take v).1 ≠ 0 → (t.take v).2.vote v.who = t.vote v.who) ∧ ((t.take v).1 = 0 → 0 ≤ v.slot ∧ v.slot ≤ 1073741824) := by
  obtain ⟨a, b, c, d⟩ := TabS.once t v h
  refine ⟨a, b, c, d, fun e => ?_⟩
  rcases TabS.take_cases t v h with ⟨h1, h2⟩ | ⟨⟨h1, h2, h3, h4⟩, h5⟩
  · rw [h2] at e; simp at e
  · exact ⟨h3, h4⟩
theorem vote_slot_rg {t : TabS} (h : t.WF) (w : Int) : 0 ≤ ((t.vote w).getD Vote.zero).slot ∧ ((t.vote w).getD Vote.zero).slot ≤ 1073741824 := by
  cases hv : t.vote w with
  | none => exact ⟨by decide, by decide⟩
  | some o =>
    unfold TabS.vote at hv
    split at hv
    · refine h.sl o ?_
      rw [List.getD_eq_getElem?_getD] at hv
      cases hg : t.latest[w.toNat]? with
      | none => rw [hg] at hv; cases hv
      | some y => rw [hg] at hv; exact List.mem_of_getElem? (hg.trans (congrArg some hv))
    · cases hv
/-- others' votes -/
structure TabS.Apart (who : Int) (a b : TabS) : Prop where
  sl : a.slots = b.slots
  ln : a.latest.length = b.latest.length
  la : 0 ≤ who → a.latest.getD who.toNat none = b.latest.getD who.toNat none
  ou : 0 ≤ who → a.out.getD who.toNat false = b.out.getD who.toNat false
  fi : ∀ e, look a.first (who, e) = look b.first (who, e)
theorem look_append_one {K V : Type} [DecidableEq K] {kvs : List (K × V)} {k k' : K} {v : V} : look (kvs ++ [(k, v)]) k' = match look kvs k' with | some x => some x | none => if k = k' then some v else none := by
  unfold look
  rw [List.find?_append]
  cases h : kvs.find? fun p => decide (p.1 = k')
  · by_cases hk : k = k' <;> simp [hk]
  · simp
theorem TabS.Apart.other {who : Int} {a b : TabS} (h : TabS.Apart who a b) (ha : a.WF) (v : Vote) (hne : v.who ≠ who) : TabS.Apart who (a.take v).2 b := by
  rcases TabS.take_cases a v ha with ⟨h1, h2⟩ | ⟨⟨h1, h2, h3, h4⟩, h5⟩
  · rw [h2]; exact h
  · have hw : 0 ≤ who → v.who.toNat ≠ who.toNat := fun h0 => by omega
    rcases h5 with ⟨h6, h7⟩ | ⟨h6, ⟨r, h7, ⟨h8, h9⟩ | ⟨h8, h9⟩⟩ | ⟨h7, ⟨o, h8, h9, h10⟩ | ⟨h8, h9⟩⟩⟩
    · rw [h7]; exact h
    · rw [h9]; exact h
    · rw [h9]; exact { h with ou := fun h0 => (getD_set_ne _ _ _ _ _ (hw h0)).trans (h.ou h0) }
    · rw [h10]
      refine { h with fi := fun e => ?_ }
      dsimp only
      rw [look_append_one, h.fi e]
      cases look b.first (who, e) <;> simp [hne]
    · rw [h9]
      refine { h with ln := (List.length_set ..).trans h.ln, la := fun h0 => (getD_set_ne _ _ _ _ _ (hw h0)).trans (h.la h0), fi := fun e => ?_ }
      dsimp only
      rw [look_append_one, h.fi e]
      cases look b.first (who, e) <;> simp [hne]
theorem TabS.Apart.both {who : Int} {a b : TabS} (h : TabS.Apart who a b) (ha : a.WF) (hb : b.WF) (v : Vote) (he : v.who = who) : TabS.Apart who (a.take v).2 (b.take v).2 ∧ (a.take v).1 = (b.take v).1 := by
  have hlen := h.ln
  have la := ha.lo
  have lb := hb.lo
  rcases TabS.take_cases a v ha with ⟨h1, h2⟩ | ⟨⟨h1, h2, h3, h4⟩, h5⟩
  · have h3 : b.take v = (5, b) := by
      unfold TabS.take
      rw [if_pos]
      simpa [TabS.isV, hlen] using h1
    rw [h2, h3]
    exact ⟨h, rfl⟩
  · subst he
    have hla := h.la h1
    have hou := h.ou h1
    have hfi := h.fi
    rcases TabS.take_cases b v hb with ⟨g1, g2⟩ | ⟨⟨g1, g2, g3, g4⟩, g5⟩
    · exfalso
      rcases g1 with g1 | g1 | g1
      · rw [TabS.isV_iff.2 ⟨h1, by omega⟩] at g1; cases g1
      · omega
      · omega
    · have fin : ∀ r, TabS.Apart v.who { a with first := a.first ++ [((v.who, v.slot / a.slots), r)] } { b with first := b.first ++ [((v.who, v.slot / b.slots), r)] } := fun r => { h with fi := fun e => (look_append_one.trans (by rw [h.fi e, h.sl])).trans look_append_one.symm }
      have fin2 : ∀ r, TabS.Apart v.who { a with first := a.first ++ [((v.who, v.slot / a.slots), r)], latest := a.latest.set v.who.toNat (some v) } { b with first := b.first ++ [((v.who, v.slot / b.slots), r)], latest := b.latest.set v.who.toNat (some v) } := fun r => { fin r with
        ln := by simp [hlen]
        la := fun h0 => by dsimp only; rw [getD_set_self _ _ _ _ (by omega), getD_set_self _ _ _ _ (by omega)] }
      rcases h5 with ⟨h6, h7⟩ | ⟨h6, ⟨r, h7, ⟨h8, h9⟩ | ⟨h8, h9⟩⟩ | ⟨h7, ⟨o, h8, h9, h10⟩ | ⟨h8, h9⟩⟩⟩ <;>
      rcases g5 with ⟨g6, g7⟩ | ⟨g6, ⟨r', g7, ⟨g8, g9⟩ | ⟨g8, g9⟩⟩ | ⟨g7, ⟨o', g8, g9, g10⟩ | ⟨g8, g9⟩⟩⟩
      all_goals first
        | (exfalso; rw [hou, g6] at h6; cases h6; done)
        | (exfalso; rw [h.sl, hfi, g7] at h7; cases h7; done)
        | (exfalso; rw [h.sl, hfi, g7] at h7; cases h7; contradiction)
        | (exfalso; rw [h.sl] at h9; rw [hla, g8] at h8; cases h8; omega)
        | (exfalso; rw [h.sl] at h8; have := h8 _ (hla.trans g8); omega)
        | (exfalso; have := g8 _ (hla.symm.trans h8); rw [h.sl] at h9; omega)
        | (rw [h7, g7]; exact ⟨h, rfl⟩)
        | (rw [h9, g9]; exact ⟨h, rfl⟩)
        | (rw [h9, g9]; exact ⟨{ h with ou := fun h0 => by dsimp only; rw [getD_set_self _ _ _ _ (by omega), getD_set_self _ _ _ _ (by omega)] }, rfl⟩)
        | (rw [h10, g10]; exact ⟨fin _, rfl⟩)
        | (rw [h9, g9]; exact ⟨fin2 _, rfl⟩)
theorem look_filter {K V : Type} [DecidableEq K] {kvs : List (K × V)} {q : K × V → Bool} {g : K → Bool} (hq : ∀ p, q p = g p.1) {k : K} : look (kvs.filter q) k = if g k = true then look kvs k else none := by
  unfold look
  rw [List.find?_filter]
  by_cases hg : g k = true
  · rw [if_pos hg]
    congr 2
    funext p
    rw [hq]
    by_cases hp : p.1 = k
    · simp [hp, hg]
    · simp [hp]
  · rw [if_neg hg]
    rw [Option.map_eq_none_iff, List.find?_eq_none]
    intro p _
    rw [hq]
    intro hp
    simp at hp
    exact hg (hp.2 ▸ hp.1)
theorem TabS.Apart.forget {who : Int} {a b : TabS} (h : TabS.Apart who a b) (s : Int) : TabS.Apart who (a.forget s) (b.forget s) := by
  unfold TabS.forget
  split
  · exact h
  · refine { h with fi := fun e => ?_ }
    dsimp only
    rw [look_filter (g := fun k : Int × Int => decide (s / a.slots ≤ k.2)) (fun p => rfl), look_filter (g := fun k : Int × Int => decide (s / b.slots ≤ k.2)) (fun p => rfl), h.fi e, h.sl]
theorem TabS.Apart.start (who : Int) (t : TabS) : TabS.Apart who t t := ⟨rfl, rfl, fun _ => rfl, fun _ => rfl, fun _ => rfl⟩
theorem TabS.Apart.ends {who : Int} {a b : TabS} (h : TabS.Apart who a b) : a.vote who = b.vote who ∧ a.counts who = b.counts who := by
  have hv : a.isV who = b.isV who := by simp [TabS.isV, h.ln]
  unfold TabS.vote TabS.counts
  rw [hv]
  by_cases hi : b.isV who = true
  · have h0 := (TabS.isV_iff.1 hi).1
    rw [h.la h0, h.ou h0]
    exact ⟨rfl, rfl⟩
  · rw [bool_not_true hi]
    exact ⟨rfl, rfl⟩
/-- where in its epoch a slot is -/
def SameEp (k : Int) : Option Vote → Option Vote → Prop
  | none, none => True
  | some x, some y => x.slot / k = y.slot / k
  | _, _ => False
structure TabS.Eps (a b : TabS) : Prop where
  sl : a.slots = b.slots
  ou : a.out = b.out
  fi : a.first = b.first
  ln : a.latest.length = b.latest.length
  la : ∀ i, SameEp a.slots (a.latest.getD i none) (b.latest.getD i none)
theorem TabS.Eps.start (t : TabS) : TabS.Eps t t := ⟨rfl, rfl, rfl, rfl, fun i => by cases t.latest.getD i none <;> simp [SameEp]⟩
theorem SameEp.refl (k : Int) (x : Option Vote) : SameEp k x x := by cases x <;> simp [SameEp]
theorem ep_round (s k : Int) (hk : 1 ≤ k) : (s - s % k) / k = s / k := by
  have h1 : s - s % k = k * (s / k) := by have := Int.emod_add_mul_ediv s k; omega
  rw [h1, Int.mul_ediv_cancel_left _ (by omega)]
theorem ep_round_rg {s k : Int} (h0 : 0 ≤ s) (hk : 1 ≤ k) : 0 ≤ s - s % k ∧ s - s % k ≤ s := by
  have h1 : s - s % k = k * (s / k) := by have := Int.emod_add_mul_ediv s k; omega
  have h2 : 0 ≤ s / k := Int.ediv_nonneg h0 (by omega)
  have h3 := Int.emod_nonneg s (show k ≠ 0 by omega)
  have h4 : 0 ≤ k * (s / k) := Int.mul_nonneg (by omega) h2
  omega
theorem TabS.Eps.step {a b : TabS} (h : TabS.Eps a b) (ha : a.WF) (hb : b.WF) (v : Vote) (h0 : 0 ≤ v.slot) (h1 : v.slot ≤ 1073741824) :
    TabS.Eps (a.take v).2 (b.take { v with slot := v.slot - v.slot % a.slots }).2 ∧ (a.take v).1 = (b.take { v with slot := v.slot - v.slot % a.slots }).1 := by
  have hlen := h.ln
  have la := ha.lo
  have lb := hb.lo
  have hr := ep_round v.slot a.slots ha.s1
  have hg := ep_round_rg (k := a.slots) h0 ha.s1
  generalize hv' : ({ v with slot := v.slot - v.slot % a.slots } : Vote) = v'
  have e1 : v'.who = v.who := by rw [← hv']
  have e2 : v'.target = v.target := by rw [← hv']
  have e3 : v'.slot / b.slots = v.slot / a.slots := by rw [← hv', ← h.sl]; exact hr
  have e4 : 0 ≤ v'.slot ∧ v'.slot ≤ 1073741824 := by rw [← hv']; dsimp only; omega
  have hla := h.la v.who.toNat
  rcases TabS.take_cases a v ha with ⟨h1', h2⟩ | ⟨⟨g1, g2, g3, g4⟩, h5⟩
  · have h3 : b.take v' = (5, b) := by
      unfold TabS.take
      rw [if_pos]
      left
      rcases h1' with h1' | h1' | h1'
      · simpa [TabS.isV, hlen, e1] using h1'
      · omega
      · omega
    rw [h2, h3]
    exact ⟨h, rfl⟩
  · rcases TabS.take_cases b v' hb with ⟨q1, q2⟩ | ⟨⟨q1, q2, q3, q4⟩, q5⟩
    · exfalso
      rcases q1 with q1 | q1 | q1
      · rw [TabS.isV_iff.2 ⟨by omega, by omega⟩] at q1; cases q1
      · omega
      · omega
    · rw [e1, e2, e3] at q5
      rw [← h.ou, ← h.fi] at q5
      have fin : TabS.Eps { a with first := a.first ++ [((v.who, v.slot / a.slots), v.target)] } { b with first := a.first ++ [((v.who, v.slot / a.slots), v.target)], out := a.out } := { h with ou := rfl, fi := rfl }
      have fin2 : TabS.Eps { a with first := a.first ++ [((v.who, v.slot / a.slots), v.target)], latest := a.latest.set v.who.toNat (some v) } { b with first := a.first ++ [((v.who, v.slot / a.slots), v.target)], out := a.out, latest := b.latest.set v.who.toNat (some v') } :=
by
        refine { h with ou := rfl, fi := rfl, ln := by simp [hlen], la := fun i => ?_ }
        dsimp only
        by_cases hi : v.who.toNat = i
        · subst hi
          rw [getD_set_self _ _ _ _ (by omega), getD_set_self _ _ _ _ (by omega)]
          show v.slot / a.slots = v'.slot / a.slots
          rw [h.sl, e3, h.sl]
        · rw [getD_set_ne _ _ _ _ _ hi, getD_set_ne _ _ _ _ _ hi]
          exact h.la i
      have hbo : b.out = a.out := h.ou.symm
      have hbf : b.first = a.first := h.fi.symm
      rcases h5 with ⟨h6, h7⟩ | ⟨h6, ⟨r, h7, ⟨h8, h9⟩ | ⟨h8, h9⟩⟩ | ⟨h7, ⟨o, h8, h9, h10⟩ | ⟨h8, h9⟩⟩⟩ <;>
      rcases q5 with ⟨q6, q7⟩ | ⟨q6, ⟨r', q7, ⟨q8, q9⟩ | ⟨q8, q9⟩⟩ | ⟨q7, ⟨o', q8, q9, q10⟩ | ⟨q8, q9⟩⟩⟩
      all_goals first
        | (exfalso; rw [q6] at h6; cases h6; done)
        | (exfalso; rw [q7] at h7; cases h7; done)
        | (exfalso; rw [q7] at h7; cases h7; contradiction)
        | (exfalso; rw [h8] at hla; cases hy : b.latest.getD v.who.toNat none with
            | none => rw [hy] at hla; exact hla
            | some y => rw [hy] at hla; have h11 := q8 y hy; have h12 : o.slot / a.slots = y.slot / a.slots := hla; rw [← h.sl] at h11; omega)
        | (exfalso; rw [q8] at hla; cases hy : a.latest.getD v.who.toNat none with
            | none => rw [hy] at hla; exact hla
            | some y => rw [hy] at hla; have h11 := h8 y hy; have h12 : y.slot / a.slots = o'.slot / a.slots := hla; rw [← h.sl] at q9; omega)
        | (rw [h7, q7]; exact ⟨h, rfl⟩)
        | (rw [h9, q9]; exact ⟨h, rfl⟩)
        | (rw [h9, q9]; exact ⟨{ h with ou := rfl, fi := rfl }, rfl⟩)
        | (rw [h10, q10]; exact ⟨fin, rfl⟩)
        | (rw [h9, q9]; exact ⟨fin2, rfl⟩)
theorem TabS.Eps.ends {a b : TabS} (h : TabS.Eps a b) (who : Int) : a.counts who = b.counts who ∧ a.first.length = b.first.length := by
  simp [TabS.counts, TabS.isV, h.ln, h.ou, h.fi]
/-- to forget -/
theorem TabS.forget_zero {t : TabS} (h : t.WF) : t.forget 0 = t := by
  unfold TabS.forget
  rw [if_neg (by decide)]
  have : (t.first.filter fun p => decide (0 / t.slots ≤ p.1.2)) = t.first := List.filter_eq_self.2 fun p hp => by
    have := (h.rg p hp).2.2.1
    simpa using this
  rw [this]
theorem TabS.forget_marks (t : TabS) (s : Int) : (t.forget s).first.length ≤ t.first.length := by
  unfold TabS.forget
  split
  · exact Nat.le_refl _
  · exact List.length_filter_le _ _
theorem TabS.forget_ends (t : TabS) (s w : Int) : (t.forget s).vote w = t.vote w ∧ (t.forget s).counts w = t.counts w := by
  obtain ⟨h1, h2, h3⟩ := t.forget_slots s
  simp [TabS.vote, TabS.counts, TabS.isV, h2, h3]
/-- votes of nobody -/
theorem TabS.take_none {t : TabS} {v : Vote} (h : t.isV v.who = false ∨ v.slot < 0 ∨ 1073741824 < v.slot) : t.take v = (5, t) := by unfold TabS.take; rw [if_pos h]
/-- in whatever order -/
def TabS.all (t : TabS) : List Vote → TabS
  | [] => t
  | v :: r => TabS.all (t.take v).2 r
theorem TabS.all_append (t : TabS) (x y : List Vote) : t.all (x ++ y) = (t.all x).all y := by
  induction x generalizing t with
  | nil => rfl
  | cons v r ih => exact ih _
def Ok (n : Nat) (v : Vote) : Prop := 0 ≤ v.who ∧ v.who < n ∧ 0 ≤ v.slot ∧ v.slot ≤ 1073741824
structure SeesW (k : Int) (V : Vote → Prop) (o : Bool) (f : Int → Option Root) (l : Option Vote) : Prop where
  ou : o = true ↔ ∃ x y, V x ∧ V y ∧ x.slot / k = y.slot / k ∧ x.target ≠ y.target
  fi : o = false → ∀ e r, f e = some r ↔ ∃ x, V x ∧ x.slot / k = e ∧ x.target = r
  ha : l = none ↔ ∀ x, ¬ V x
  la : o = false → ∀ y, l = some y → V y ∧ ∀ x, V x → x.slot / k ≤ y.slot / k
theorem SeesW.congr {k : Int} {V V' : Vote → Prop} {o : Bool} {f f' : Int → Option Root} {l : Option Vote} (h : SeesW k V o f l) (hV : ∀ x, V x ↔ V' x) (hf : ∀ e, f e = f' e) : SeesW k V' o f' l := by
  have hV' : V = V' := funext fun x => propext (hV x)
  have hf' : f = f' := funext hf
  subst hV' hf'
  exact h
theorem SeesW.one {k : Int} {V : Vote → Prop} {o o' : Bool} {f f' : Int → Option Root} {l l' : Option Vote} (h : SeesW k V o f l) (h' : SeesW k V o' f' l') :
    o = o' ∧ l.isSome = l'.isSome ∧ (o = false → ∀ y y', l = some y → l' = some y' → y.slot / k = y'.slot / k ∧ y.target = y'.target) := by
  have e1 : o = o' := by rw [Bool.eq_iff_iff, h.ou, h'.ou]
  refine ⟨e1, ?_, fun ho y y' hy hy' => ?_⟩
  · have := h.ha.trans h'.ha.symm
    cases l <;> cases l' <;> simp_all
  · obtain ⟨a1, a2⟩ := h.la ho y hy
    obtain ⟨b1, b2⟩ := h'.la (e1 ▸ ho) y' hy'
    have e2 : y.slot / k = y'.slot / k := Int.le_antisymm (b2 y a1) (a2 y' b1)
    refine ⟨e2, Classical.byContradiction fun hne => ?_⟩
    have := h.ou.2 ⟨y, y', a1, b1, e2, hne⟩
    rw [ho] at this; cases this
def TabS.Sees (vs : List Vote) (t : TabS) : Prop := t.WF ∧ ∀ w : Int, 0 ≤ w → w < t.latest.length → SeesW t.slots (fun x => x ∈ vs ∧ Ok t.latest.length x ∧ x.who = w) (t.out.getD w.toNat false) (fun e => look t.first (w, e)) (t.latest.getD w.toNat none)
theorem TabS.Sees.new {n : Nat} {s : Int} (hn : n ≤ 64) (h1 : 1 ≤ s) (h2 : s ≤ 32) : (TabS.new n s).Sees [] := by
  refine ⟨TabS.WF.new hn h1 h2, fun w hw hl => ?_⟩
  have hl' : w < n := by simpa [TabS.new] using hl
  have e1 : (TabS.new n s).out.getD w.toNat false = false := by simp [TabS.new, List.getD_eq_getElem?_getD, List.getElem?_replicate]; split <;> rfl
  have e2 : (TabS.new n s).latest.getD w.toNat none = none := by simp [TabS.new, List.getD_eq_getElem?_getD, List.getElem?_replicate]; split <;> rfl
  rw [e1, e2]
  exact ⟨by simp, fun _ e r => by simp [TabS.new, look], by simp, fun _ y hy => by cases hy⟩
theorem SeesW.skip {k : Int} {vs : List Vote} {n : Nat} {w : Int} {v : Vote} {o : Bool} {f : Int → Option Root} {l : Option Vote} (h : SeesW k (fun x => x ∈ vs ∧ Ok n x ∧ x.who = w) o f l) (hv : ¬ (Ok n v ∧ v.who = w)) : SeesW k (fun x => x ∈ vs ++ [v] ∧ Ok n x ∧ x.who = w) o f l :=
  h.congr (fun x => by
    simp only [List.mem_append, List.mem_singleton]
    constructor
    · rintro ⟨a, b⟩; exact ⟨.inl a, b⟩
    · rintro ⟨a | a, b⟩
      · exact ⟨a, b⟩
      · subst a; exact absurd b hv) fun _ => rfl
theorem TabS.Sees.take {vs : List Vote} {t : TabS} (h : t.Sees vs) (v : Vote) : (t.take v).2.Sees (vs ++ [v]) := by
  obtain ⟨hw, hs⟩ := h
  refine ⟨hw.take v, fun w h0 hl => ?_⟩
  obtain ⟨es, el⟩ := t.take_slots v
  rw [el] at hl ⊢
  rw [es]
  have hsw := hs w h0 hl
  have hlo := hw.lo
  rcases TabS.take_cases t v hw with ⟨h1, h2⟩ | ⟨⟨h1, h2, h3, h4⟩, h5⟩
  · rw [h2]
    refine hsw.skip fun ⟨ho, _⟩ => ?_
    rcases h1 with h1 | h1 | h1
    · rw [TabS.isV_iff.2 ⟨ho.1, ho.2.1⟩] at h1; cases h1
    · have := ho.2.2.1; omega
    · have := ho.2.2.2; omega
  · have hok : Ok t.latest.length v := ⟨h1, h2, h3, h4⟩
    by_cases hwho : v.who = w
    · subst hwho
      obtain ⟨V, hV⟩ : ∃ V : Vote → Prop, V = fun x => x ∈ vs ∧ Ok t.latest.length x ∧ x.who = v.who := ⟨_, rfl⟩
      rw [← hV] at hsw
      have hmem : ∀ x, (x ∈ vs ++ [v] ∧ Ok t.latest.length x ∧ x.who = v.who) ↔ (V x ∨ x = v) := fun x => by
        rw [hV]
        simp only [List.mem_append, List.mem_singleton]
        constructor
        · rintro ⟨a | a, b⟩
          · exact .inl ⟨a, b⟩
          · exact .inr a
        · rintro (⟨a, b⟩ | a)
          · exact ⟨.inl a, b⟩
          · subst a; exact ⟨.inr rfl, hok, rfl⟩
      refine SeesW.congr (V := fun x => V x ∨ x = v) ?_ (fun x => (hmem x).symm) (fun _ => rfl)
      clear hmem hV
      generalize hk : t.slots = k at *
      have hlt : v.who.toNat < t.latest.length := by omega
      have hla : ∀ {x}, V x → t.latest.getD v.who.toNat none ≠ none := fun hx e => hsw.ha.1 e _ hx
      rcases h5 with ⟨h6, h7⟩ | ⟨h6, ⟨r, h7, ⟨h8, h9⟩ | ⟨h8, h9⟩⟩ | ⟨h7, ⟨o, h8, h9, h10⟩ | ⟨h8, h9⟩⟩⟩
      · rw [h7, h6]
        obtain ⟨x, y, hx, hy, hxy⟩ := hsw.ou.1 h6
        refine ⟨⟨fun _ => ⟨x, y, .inl hx, .inl hy, hxy⟩, fun _ => rfl⟩, fun h => (by cases h), ?_, fun h => (by cases h)⟩
        exact ⟨fun e => absurd e (hla hx), fun e => absurd (.inl hx) (e x)⟩
      · subst h8
        rw [h9, h6]
        obtain ⟨x0, hx0, he0, ht0⟩ := (hsw.fi h6 _ _).1 h7
        have hno : ∀ x, V x → x.slot / k = v.slot / k → x.target = v.target := fun x hx he => by
          have := (hsw.fi h6 (v.slot / k) x.target).2 ⟨x, hx, he, rfl⟩
          rw [h7] at this; exact (Option.some.inj this).symm
        refine ⟨⟨fun h => (by cases h), ?_⟩, fun _ e r => ?_, ⟨fun e => absurd e (hla hx0), fun e => absurd (.inl hx0) (e x0)⟩, fun _ y hy => ?_⟩
        · rintro ⟨x, y, hx, hy, he, hne⟩
          exfalso
          rcases hx with hx | rfl <;> rcases hy with hy | rfl
          · have := hsw.ou.2 ⟨x, y, hx, hy, he, hne⟩
            rw [h6] at this; cases this
          · exact hne (hno x hx he)
          · exact hne (hno y hy he.symm).symm
          · exact hne rfl
        · rw [hsw.fi h6]
          constructor
          · rintro ⟨x, hx, hxx⟩; exact ⟨x, .inl hx, hxx⟩
          · rintro ⟨x, hx | rfl, hxx⟩
            · exact ⟨x, hx, hxx⟩
            · exact ⟨x0, hx0, he0.trans hxx.1, ht0.trans hxx.2⟩
        · obtain ⟨a, b⟩ := hsw.la h6 y hy
          refine ⟨.inl a, fun x hx => ?_⟩
          rcases hx with hx | rfl
          · exact b x hx
          · rw [← he0]; exact b x0 hx0
      · rw [h9]
        obtain ⟨x0, hx0, he0, ht0⟩ := (hsw.fi h6 _ _).1 h7
        dsimp only
        rw [getD_set_self _ _ _ _ (by omega)]
        exact ⟨⟨fun _ => ⟨x0, v, .inl hx0, .inr rfl, he0, fun e => h8 (ht0.symm.trans e)⟩, fun _ => rfl⟩, fun h => (by cases h), ⟨fun e => absurd e (hla hx0), fun e => absurd (.inl hx0) (e x0)⟩, fun h => (by cases h)⟩
      all_goals
        have hno : ∀ x, V x → x.slot / k ≠ v.slot / k := fun x hx he => by
          have := (hsw.fi h6 (v.slot / k) x.target).2 ⟨x, hx, he, rfl⟩
          rw [h7] at this; cases this
        have hou : (false : Bool) = true ↔ ∃ x y, (V x ∨ x = v) ∧ (V y ∨ y = v) ∧ x.slot / k = y.slot / k ∧ x.target ≠ y.target := by
          refine ⟨fun h => (by cases h), ?_⟩
          rintro ⟨x, y, hx, hy, he, hne⟩
          exfalso
          rcases hx with hx | rfl <;> rcases hy with hy | rfl
          · have := hsw.ou.2 ⟨x, y, hx, hy, he, hne⟩
            rw [h6] at this; cases this
          · exact hno x hx he
          · exact hno y hy he.symm
          · exact hne rfl
        have hfi : ∀ e r, look (t.first ++ [((v.who, v.slot / k), v.target)]) (v.who, e) = some r ↔ ∃ x, (V x ∨ x = v) ∧ x.slot / k = e ∧ x.target = r := fun e r => by
          rw [look_append_one]
          by_cases he : v.slot / k = e
          · subst he
            rw [h7]
            simp only [if_true, Option.some.injEq]
            constructor
            · intro h; exact ⟨v, .inr rfl, rfl, h⟩
            · rintro ⟨x, hx | rfl, h1, h2⟩
              · exact absurd h1 (hno x hx)
              · exact h2
          · have hf := hsw.fi h6 e r
            cases hl : look t.first (v.who, e) with
            | some r' =>
              rw [hl] at hf
              dsimp only
              rw [hf]
              constructor
              · rintro ⟨x, hx, h⟩; exact ⟨x, .inl hx, h⟩
              · rintro ⟨x, hx | rfl, h⟩
                · exact ⟨x, hx, h⟩
                · exact absurd h.1 he
            | none =>
              rw [hl] at hf
              dsimp only
              rw [if_neg (by simpa using he), hf]
              constructor
              · rintro ⟨x, hx, h⟩; exact ⟨x, .inl hx, h⟩
              · rintro ⟨x, hx | rfl, h⟩
                · exact ⟨x, hx, h⟩
                · exact absurd h.1 he
      · rw [h10]
        dsimp only
        rw [h6, h8]
        obtain ⟨a, b⟩ := hsw.la h6 o h8
        refine ⟨hou, fun _ => hfi, ⟨fun e => by (cases e), fun e => absurd (.inr rfl) (e v)⟩, fun _ y hy => ?_⟩
        cases hy
        refine ⟨.inl a, fun x hx => ?_⟩
        rcases hx with hx | rfl
        · exact b x hx
        · exact Int.le_of_lt h9
      · rw [h9]
        dsimp only
        rw [h6, getD_set_self _ _ _ _ hlt]
        refine ⟨hou, fun _ => hfi, ⟨fun e => by (cases e), fun e => absurd (.inr rfl) (e v)⟩, fun _ y hy => ?_⟩
        cases hy
        refine ⟨.inr rfl, fun x hx => ?_⟩
        rcases hx with hx | rfl
        · cases hg : t.latest.getD v.who.toNat none with
          | none => exact absurd hg (hla hx)
          | some o => exact Int.le_trans ((hsw.la h6 o hg).2 x hx) (h8 o hg)
        · exact Int.le_refl _
    · have hne : v.who.toNat ≠ w.toNat := by omega
      have hlk : ∀ e, look (t.first ++ [((v.who, v.slot / t.slots), v.target)]) (w, e) = look t.first (w, e) := fun e => by
        rw [look_append_one]
        cases look t.first (w, e) <;> simp [hwho]
      refine SeesW.skip (v := v) ?_ fun ⟨_, e⟩ => hwho e
      rcases h5 with ⟨h6, h7⟩ | ⟨h6, ⟨r, h7, ⟨h8, h9⟩ | ⟨h8, h9⟩⟩ | ⟨h7, ⟨o, h8, h9, h10⟩ | ⟨h8, h9⟩⟩⟩
      · rw [h7]; exact hsw
      · rw [h9]; exact hsw
      · rw [h9]; dsimp only; rw [getD_set_ne _ _ _ _ _ hne]; exact hsw
      · rw [h10]; dsimp only; exact hsw.congr (fun _ => Iff.rfl) fun e => (hlk e).symm
      · rw [h9]; dsimp only; rw [getD_set_ne _ _ _ _ _ hne]; exact hsw.congr (fun _ => Iff.rfl) fun e => (hlk e).symm
theorem TabS.Sees.alike {vs vs' : List Vote} {a b : TabS} (ha : a.Sees vs) (hb : b.Sees vs') (hs : a.slots = b.slots) (hl : a.latest.length = b.latest.length) (hm : ∀ x, x ∈ vs ↔ x ∈ vs') (w : Int) :
    a.counts w = b.counts w ∧ (a.vote w).isSome = (b.vote w).isSome ∧ (a.counts w = true → ∀ y y', a.vote w = some y → b.vote w = some y' → y.slot / a.slots = y'.slot / a.slots ∧ y.target = y'.target) := by
  have hv : a.isV w = b.isV w := by simp [TabS.isV, hl]
  by_cases hi : a.isV w = true
  · have h0 := TabS.isV_iff.1 hi
    have h1 := ha.2 w h0.1 h0.2
    have h2 := (hb.2 w h0.1 (by omega)).congr (V' := fun x => x ∈ vs ∧ Ok a.latest.length x ∧ x.who = w) (fun x => by rw [hm, hl]) (fun _ => rfl)
    rw [← hs] at h2
    obtain ⟨e1, e2, e3⟩ := h1.one h2
    rw [TabS.vote_at h0, TabS.vote_at (t := b) ⟨h0.1, by omega⟩]
    refine ⟨by unfold TabS.counts; rw [hv, e1], e2, fun hc => e3 (TabS.counts_true.1 hc).2⟩
  · have hi' := bool_not_true hi
    rw [TabS.vote_none hi', TabS.vote_none (hv ▸ hi')]
    refine ⟨by unfold TabS.counts; rw [← hv, hi']; rfl, rfl, fun _ y y' h => by cases h⟩
/-- the rows that TableOrder turns -/
def turned {α : Type} (L : List α) (k : Nat) (i : Nat) : Nat := L.length - 1 - (i + k) % L.length
theorem turned_lt {α : Type} {L : List α} {k i : Nat} (hn : 0 < L.length) : turned L k i < L.length := by unfold turned; omega
def turnedTo (L : List Vote) (k : Nat) (m : Nat) : List Vote := (List.range m).map fun i => L.getD (turned L k i) Vote.zero
theorem turnedTo_succ (L : List Vote) (k m : Nat) : turnedTo L k (m + 1) = turnedTo L k m ++ [L.getD (turned L k m) Vote.zero] := by simp [turnedTo, List.range_succ]
theorem turnedTo_mem (L : List Vote) (k : Nat) (hk : k < L.length) (x : Vote) : x ∈ turnedTo L k L.length ↔ x ∈ L := by
  simp only [turnedTo, List.mem_map, List.mem_range]
  constructor
  · rintro ⟨i, hi, rfl⟩
    have := turned_lt (k := k) (i := i) (show 0 < L.length by omega)
    simp [List.getD_eq_getElem?_getD, this]
  · intro hx
    obtain ⟨j, hj, rfl⟩ := List.mem_iff_getElem.1 hx
    refine ⟨(L.length - 1 - j + (L.length - k)) % L.length, Nat.mod_lt _ (by omega), ?_⟩
    have h1 : ((L.length - 1 - j + (L.length - k)) % L.length + k) % L.length = L.length - 1 - j := by
      rw [Nat.mod_add_mod, show L.length - 1 - j + (L.length - k) + k = L.length - 1 - j + L.length by omega, Nat.add_mod_right, Nat.mod_eq_of_lt (by omega)]
    have : turned L k ((L.length - 1 - j + (L.length - k)) % L.length) = j := by unfold turned; rw [h1]; omega
    rw [this]
    simp [List.getD_eq_getElem?_getD, hj]
theorem TabS.Sees.all {t : TabS} {vs : List Vote} (h : t.Sees vs) (xs : List Vote) : (t.all xs).Sees (vs ++ xs) := by
  induction xs generalizing t vs with
  | nil => simpa [TabS.all] using h
  | cons v r ih => have := ih (h.take v); simpa [TabS.all] using this
theorem TabS.all_slots (t : TabS) (xs : List Vote) : (t.all xs).slots = t.slots ∧ (t.all xs).latest.length = t.latest.length := by
  induction xs generalizing t with
  | nil => exact ⟨rfl, rfl⟩
  | cons v r ih => obtain ⟨a, b⟩ := ih (t.take v).2; obtain ⟨c, d⟩ := t.take_slots v; exact ⟨a.trans c, b.trans d⟩
end Go.SL
