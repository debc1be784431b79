import Derived.Test.YtdeemlgkckpedaaMTree3
import Derived.Test.YtdeemlgkckpedaaMSha2
set_option linter.unusedVariables false
set_option linter.unusedSimpArgs false
namespace Go.SL
/-! ### Weights, in plain Lean -/
def sg (f : Nat → Int) : Nat → Int
  | 0 => 0
  | m + 1 => sg f m + f m
section
variable {f g : Nat → Int} {m : Nat}
theorem sg_succ : sg f (m + 1) = sg f m + f m := rfl
theorem sg_congr (h : ∀ j, j < m → f j = g j) : sg f m = sg g m := by
  induction m with
  | zero => rfl
  | succ m ih => rw [sg_succ, sg_succ, ih (fun j hj => h j (by omega)), h m (by omega)]
theorem sg_add (f g : Nat → Int) (m : Nat) : sg (fun j => f j + g j) m = sg f m + sg g m := by
  induction m with
  | zero => rfl
  | succ m ih => rw [sg_succ, sg_succ, sg_succ, ih]; omega
theorem sg_le (h : ∀ j, j < m → f j ≤ g j) : sg f m ≤ sg g m := by
  induction m with
  | zero => exact Int.le_refl _
  | succ m ih =>
    have h1 := ih fun j hj => h j (by omega)
    have h2 := h m (by omega)
    rw [sg_succ, sg_succ]
    omega
theorem sg_zero (h : ∀ j, j < m → f j = 0) : sg f m = 0 := by
  induction m with
  | zero => rfl
  | succ m ih => rw [sg_succ, ih (fun j hj => h j (by omega)), h m (by omega)]; rfl
theorem sg_nonneg (h : ∀ j, j < m → 0 ≤ f j) : 0 ≤ sg f m := by
  induction m with
  | zero => exact Int.le_refl _
  | succ m ih =>
    have h1 := ih fun j hj => h j (by omega)
    have h2 := h m (by omega)
    rw [sg_succ]
    omega
theorem sg_one (i : Nat) (d : Int) (m : Nat) : sg (fun j => if j = i then d else 0) m = if i < m then d else 0 := by
  induction m with
  | zero => rfl
  | succ m ih =>
    rw [sg_succ, ih]
    by_cases h : m = i
    · subst h
      rw [if_neg (by omega), if_pos rfl, if_pos (by omega)]; omega
    · rw [if_neg h]
      by_cases h2 : i < m
      · rw [if_pos h2, if_pos (by omega)]; omega
      · rw [if_neg h2, if_neg (by omega)]; rfl
theorem sg_ext {n : Nat} (hn : m ≤ n) (h : ∀ j, m ≤ j → j < n → f j = 0) : sg f n = sg f m := by
  induction n with
  | zero => rw [show m = 0 by omega]
  | succ n ih =>
    by_cases e : m = n + 1
    · rw [e]
    · rw [sg_succ, ih (by omega) (fun j h1 h2 => h j h1 (by omega)), h n (by omega) (by omega)]; omega
theorem sg_get (h : ∀ j, j < m → 0 ≤ f j) {i : Nat} (hi : i < m) : f i ≤ sg f m := by
  induction m with
  | zero => omega
  | succ m ih =>
    rw [sg_succ]
    have h1 := h m (by omega)
    by_cases e : i = m
    · subst e
      have := sg_nonneg (f := f) (m := i) fun j hj => h j (by omega)
      omega
    · have := ih (fun j hj => h j (by omega)) (by omega)
      omega
end
def oA (o : List Int) (j : Nat) : Int := o.getD j 0
theorem oA_get {o : List Int} {j : Nat} (h : j < o.length) : oA o j = o[j] := by simp [oA, List.getD_eq_getElem?_getD, h]
theorem oA_out {o : List Int} {j : Nat} (h : o.length ≤ j) : oA o j = 0 := by simp [oA, List.getD_eq_getElem?_getD, h]
theorem oA_set {o : List Int} {i j : Nat} {v : Int} (h : i < o.length) : oA (o.set i v) j = if j = i then v else oA o j := by
  unfold oA
  rw [List.getD_eq_getElem?_getD, List.getD_eq_getElem?_getD, List.getElem?_set]
  by_cases e : i = j
  · subst e; simp [h]
  · rw [if_neg e, if_neg (fun h => e h.symm)]
theorem oA_zeros {o : List Int} {k j : Nat} : oA (o ++ List.replicate k 0) j = oA o j := by
  unfold oA
  rw [List.getD_eq_getElem?_getD, List.getD_eq_getElem?_getD]
  by_cases h : j < o.length
  · rw [List.getElem?_append_left h]
  · rw [List.getElem?_append_right (by omega), List.getElem?_eq_none (show o.length ≤ j by omega), List.getElem?_replicate]
    split <;> rfl
theorem oA_map {n : Nat} {f : Nat → Int} {j : Nat} (h : j < n) : oA ((List.range n).map f) j = f j := by
  rw [oA_get (by simp [h])]
  simp
def tot (o : List Int) : Int := sg (oA o) o.length
def rtA (ns : List Node) (i : Nat) : Root := ((ns[i]?).getD nodeNo).root
def prA (ns : List Node) (i : Nat) : Int := ((ns[i]?).getD nodeNo).parent
theorem prA_get {ns : List Node} {i : Nat} (h : i < ns.length) : prA ns i = ns[i].parent := by simp [prA, h]
theorem rtA_get {ns : List Node} {i : Nat} (h : i < ns.length) : rtA ns i = ns[i].root := by simp [rtA, h]
theorem prA_app {ns xs : List Node} {i : Nat} (h : i < ns.length) : prA (ns ++ xs) i = prA ns i := by unfold prA; rw [List.getElem?_append_left h]
theorem rtA_app {ns xs : List Node} {i : Nat} (h : i < ns.length) : rtA (ns ++ xs) i = rtA ns i := by unfold rtA; rw [List.getElem?_append_left h]
theorem Par.rg {ns : List Node} (hp : Par ns) {i : Nat} (h : i < ns.length) : (i = 0 ∧ prA ns i = -1) ∨ ∃ j : Nat, prA ns i = j ∧ j < i := by
  rw [prA_get h]
  rcases hp i _ (List.getElem?_eq_getElem h) with h1 | ⟨j, m, h1, h2, _⟩
  · exact .inl h1
  · exact .inr ⟨j, h1, h2⟩
theorem bel_append {ns xs : List Node} (hp : Par ns) (a : Nat) : ∀ (k : Nat) (i : Int), i < ns.length → bel (ns ++ xs) a k i = bel ns a k i := by
  intro k
  induction k with
  | zero => intro i h; rfl
  | succ k ih =>
    intro i h
    unfold bel
    by_cases h1 : i < a
    · rw [if_pos h1, if_pos h1]
    · rw [if_neg h1, if_neg h1]
      by_cases h2 : i = a
      · rw [if_pos h2, if_pos h2]
      · rw [if_neg h2, if_neg h2]
        have hl : i.toNat < ns.length := by omega
        rw [List.getElem?_append_left hl, List.getElem?_eq_getElem hl]
        dsimp only
        refine ih _ ?_
        rcases hp i.toNat _ (List.getElem?_eq_getElem hl) with ⟨h3, h4⟩ | ⟨j, m, h3, h4, _⟩
        · rw [h4]; omega
        · rw [h3]; omega
theorem belI_append {ns xs : List Node} (hp : Par ns) {a i : Nat} (h : i < ns.length) : belI (ns ++ xs) a (i : Int) = belI ns a (i : Int) := bel_append hp a _ _ (by omega)
theorem belI_pr {ns : List Node} (hp : Par ns) {a i : Nat} (h : i < ns.length) (hne : i ≠ a) : belI ns a (i : Int) = belI ns a (prA ns i) := by
  rw [prA_get h]
  exact belI_up hp (List.getElem?_eq_getElem h) hne
theorem belI_trans {ns : List Node} (hp : Par ns) {a k i : Nat} (hk : k < ns.length) (hi : i < ns.length) (h1 : belI ns a (k : Int) = true) (h2 : belI ns k (i : Int) = true) : belI ns a (i : Int) = true :=
  (belI_iff hp i hi).2 (((belI_iff hp i hi).1 h2).trans ((belI_iff hp k hk).1 h1))
theorem belI_zero {ns : List Node} (hp : Par ns) {i : Nat} (hi : i < ns.length) : belI ns 0 (i : Int) = true := (belI_iff hp i hi).2 (UpTo.zero hp i hi)
/-- what a block weighs with all below it, of the blocks that are known -/
def sumN (ns : List Node) (o : List Int) (a : Nat) : Int := sg (fun j => if belI ns a (j : Int) = true then oA o j else 0) o.length
def sumL (ns : List Node) (o : List Int) : List Int := (List.range o.length).map (sumN ns o)
theorem sumL_len (ns : List Node) (o : List Int) : (sumL ns o).length = o.length := by simp [sumL]
theorem sumL_at {ns : List Node} {o : List Int} {i : Nat} (h : i < o.length) : oA (sumL ns o) i = sumN ns o i := oA_map h
theorem sumN_app {ns xs : List Node} {o : List Int} (hp : Par ns) (h : o.length ≤ ns.length) (a : Nat) : sumN (ns ++ xs) o a = sumN ns o a :=
  sg_congr fun j hj => by rw [belI_append hp (by omega)]
theorem sumL_app {ns xs : List Node} {o : List Int} (hp : Par ns) (h : o.length ≤ ns.length) : sumL (ns ++ xs) o = sumL ns o := by
  unfold sumL
  apply List.map_congr_left
  intro a _
  exact sumN_app hp h a
theorem sumN_zeros {ns : List Node} {o : List Int} (k a : Nat) : sumN ns (o ++ List.replicate k 0) a = sumN ns o a := by
  unfold sumN
  rw [List.length_append, List.length_replicate, sg_ext (m := o.length) (by omega)]
  · exact sg_congr fun j hj => by rw [oA_zeros]
  · intro j h1 h2
    rw [oA_zeros, oA_out h1]
    split <;> rfl
theorem sumN_hi {ns : List Node} {o : List Int} {a : Nat} (h : o.length ≤ a) : sumN ns o a = 0 :=
  sg_zero fun j hj => by rw [belI_lt (by omega)]; rfl
theorem sumL_zeros {ns : List Node} {o : List Int} (k : Nat) : sumL ns (o ++ List.replicate k 0) = sumL ns o ++ List.replicate k 0 := by
  apply List.ext_getElem
  · simp [sumL]
  · intro j h1 h2
    have hj : j < o.length + k := by simpa [sumL] using h1
    have e1 : (sumL ns (o ++ List.replicate k 0))[j] = sumN ns o j := by simp only [sumL, List.getElem_map, List.getElem_range]; exact sumN_zeros k j
    rw [e1]
    by_cases h : j < o.length
    · rw [List.getElem_append_left (by rw [sumL_len]; exact h)]
      simp [sumL]
    · rw [List.getElem_append_right (by rw [sumL_len]; omega), List.getElem_replicate, sumN_hi (by omega)]
theorem sumN_set {ns : List Node} {o : List Int} {i : Nat} (hi : i < o.length) (v : Int) (a : Nat) : sumN ns (o.set i v) a = sumN ns o a + if belI ns a (i : Int) = true then v - oA o i else 0 := by
  unfold sumN
  rw [List.length_set]
  have e : sg (fun j => if belI ns a (j : Int) = true then oA (o.set i v) j else 0) o.length = sg (fun j => (if belI ns a (j : Int) = true then oA o j else 0) + (if j = i then (if belI ns a (i : Int) = true then v - oA o i else 0) else 0)) o.length :=
    sg_congr fun j hj => by
      rw [oA_set hi]
      by_cases h : j = i
      · subst h
        rw [if_pos rfl, if_pos rfl]
        split <;> omega
      · rw [if_neg h, if_neg h]; omega
  rw [e, sg_add, sg_one, if_pos hi]
theorem tot_set {o : List Int} {i : Nat} (hi : i < o.length) (v : Int) : tot (o.set i v) = tot o + (v - oA o i) := by
  unfold tot
  rw [List.length_set]
  have e : sg (oA (o.set i v)) o.length = sg (fun j => oA o j + (if j = i then v - oA o i else 0)) o.length := sg_congr fun j hj => by
    rw [oA_set hi]
    by_cases h : j = i
    · subst h; rw [if_pos rfl, if_pos rfl]; omega
    · rw [if_neg h, if_neg h]; omega
  rw [e, sg_add, sg_one, if_pos hi]
theorem tot_zeros {o : List Int} {k : Nat} : tot (o ++ List.replicate k 0) = tot o := by
  unfold tot
  rw [List.length_append, List.length_replicate, sg_ext (m := o.length) (by omega)]
  · exact sg_congr fun j hj => oA_zeros
  · intro j h1 h2
    rw [oA_zeros, oA_out h1]
structure OwnOK (o : List Int) : Prop where
  nn : ∀ j, 0 ≤ oA o j
  tt : tot o < 4611686018427387904
theorem OwnOK.zeros {o : List Int} (h : OwnOK o) (k : Nat) : OwnOK (o ++ List.replicate k 0) := ⟨fun j => by rw [oA_zeros]; exact h.nn j, by rw [tot_zeros]; exact h.tt⟩
theorem OwnOK.nil : OwnOK [] := ⟨fun j => by rw [oA_out (Nat.zero_le _)]; exact Int.le_refl _, by decide⟩
theorem OwnOK.lt {o : List Int} (h : OwnOK o) (j : Nat) : oA o j < 4611686018427387904 := by
  by_cases hj : j < o.length
  · have := sg_get (f := oA o) (m := o.length) (fun j _ => h.nn j) hj
    have h2 := h.tt
    unfold tot at h2
    omega
  · rw [oA_out (by omega)]; decide
section
variable {ns : List Node} {o : List Int} {a : Nat}
theorem sumN_nonneg (h : ∀ j, 0 ≤ oA o j) : 0 ≤ sumN ns o a := sg_nonneg fun j _ => by
  have := h j
  split <;> omega
theorem sumN_tot (h : ∀ j, 0 ≤ oA o j) : sumN ns o a ≤ tot o := sg_le fun j _ => by
  have := h j
  split <;> omega
theorem sumN_first (hp : Par ns) (hl : o.length ≤ ns.length) : sumN ns o 0 = tot o := sg_congr fun j hj => by rw [belI_zero hp (by omega)]; rfl
theorem sumN_le (hp : Par ns) (hl : o.length ≤ ns.length) (h : ∀ j, 0 ≤ oA o j) {k : Nat} (hk : k < ns.length) (hb : belI ns a (k : Int) = true) : sumN ns o k ≤ sumN ns o a := sg_le fun j hj => by
  have hj0 := h j
  by_cases h1 : belI ns k (j : Int) = true
  · rw [if_pos h1, if_pos (belI_trans hp hk (by omega) hb h1)]; exact Int.le_refl _
  · rw [if_neg h1]; split <;> omega
theorem sumN_own (h : ∀ j, 0 ≤ oA o j) (ha : a < o.length) : oA o a ≤ sumN ns o a := by
  have := sg_get (f := fun j => if belI ns a (j : Int) = true then oA o j else 0) (m := o.length) (fun j _ => by have := h j; split <;> omega) ha
  rwa [belI_eq, if_pos rfl] at this
end
/-! children -/
def kidsI (ns : List Node) (n p : Nat) : List Nat := (List.range n).filter fun k => decide (prA ns k = (p : Int))
theorem kidsI_succ (ns : List Node) (n p : Nat) : kidsI ns (n + 1) p = if prA ns n = (p : Int) then kidsI ns n p ++ [n] else kidsI ns n p := by
  unfold kidsI
  rw [List.range_succ, List.filter_append]
  by_cases h : prA ns n = (p : Int)
  · rw [if_pos h, List.filter_cons_of_pos (by simpa using h)]; rfl
  · rw [if_neg h, List.filter_cons_of_neg (by simpa using h)]; simp
theorem mem_kidsI {ns : List Node} {n p k : Nat} : k ∈ kidsI ns n p ↔ k < n ∧ prA ns k = (p : Int) := by
  unfold kidsI
  rw [List.mem_filter]
  simp
theorem kidsI_len (ns : List Node) (n p : Nat) : (kidsI ns n p).length ≤ n := by
  unfold kidsI
  exact Nat.le_trans (List.length_filter_le _ _) (by simp)
theorem kidsI_gt {ns : List Node} (hp : Par ns) {n p k : Nat} (hn : n ≤ ns.length) (h : k ∈ kidsI ns n p) : p < k ∧ k < n := by
  obtain ⟨h1, h2⟩ := mem_kidsI.1 h
  rcases hp.rg (show k < ns.length by omega) with ⟨h3, h4⟩ | ⟨j, h3, h4⟩ <;> omega
theorem kids_sg (ns : List Node) (S : Nat → Int) (n p : Nat) : ((kidsI ns n p).map S).sum = sg (fun k => if prA ns k = (p : Int) then S k else 0) n := by
  induction n with
  | zero => rfl
  | succ n ih =>
    rw [kidsI_succ, sg_succ]
    by_cases h : prA ns n = (p : Int)
    · rw [if_pos h, if_pos h, List.map_append, List.sum_append, ih]; simp
    · rw [if_neg h, if_neg h, ih]; omega
theorem kid_cnt {ns : List Node} (hp : Par ns) (i n : Nat) (hn : n ≤ ns.length) (d : Int) : ∀ m, m < n → sg (fun k => if prA ns k = (i : Int) ∧ belI ns k (m : Int) = true then d else 0) n = if belI ns i (m : Int) = true ∧ i ≠ m then d else 0 := by
  intro m
  induction m using Nat.strongRecOn with
  | _ m ih =>
    intro hm
    rcases hp.rg (show m < ns.length by omega) with ⟨h1, h2⟩ | ⟨j, h1, h2⟩
    · subst h1
      rw [sg_zero]
      · rw [if_neg]
        rintro ⟨h3, h4⟩
        rw [belI_lt (by omega)] at h3
        cases h3
      · intro k hk
        rw [if_neg]
        rintro ⟨h3, h4⟩
        by_cases e : k = 0
        · subst e; omega
        · rw [belI_lt (by omega)] at h4; cases h4
    · by_cases hji : j = i
      · subst hji
        have e : sg (fun k => if prA ns k = (j : Int) ∧ belI ns k (m : Int) = true then d else 0) n = sg (fun k => if k = m then d else 0) n := sg_congr fun k hk => by
          by_cases e : k = m
          · subst e; rw [if_pos rfl, if_pos ⟨h1, belI_eq⟩]
          · rw [if_neg e, if_neg]
            rintro ⟨h3, h4⟩
            rw [belI_pr hp (by omega) (fun h => e h.symm), h1] at h4
            rcases hp.rg (show k < ns.length by omega) with ⟨h5, h6⟩ | ⟨q, h5, h6⟩
            · omega
            · rw [belI_lt (show (j : Int) < k by omega)] at h4; cases h4
        rw [e, sg_one, if_pos hm, if_pos]
        refine ⟨?_, by omega⟩
        rw [belI_pr hp (by omega) (by omega), h1, belI_eq]
      · have e : sg (fun k => if prA ns k = (i : Int) ∧ belI ns k (m : Int) = true then d else 0) n = sg (fun k => if prA ns k = (i : Int) ∧ belI ns k (j : Int) = true then d else 0) n := sg_congr fun k hk => by
          by_cases e : k = m
          · subst e
            rw [if_neg (by omega), if_neg (by omega)]
          · rw [belI_pr hp (by omega) (fun h => e h.symm), h1]
        rw [e, ih j h2 (by omega)]
        by_cases e2 : i = m
        · rw [if_neg (show ¬ (belI ns i (j : Int) = true ∧ i ≠ j) from fun h => by rw [belI_lt (show (j : Int) < i by omega)] at h; cases h.1), if_neg (fun h => h.2 e2)]
        · rw [belI_pr hp (a := i) (i := m) (by omega) (fun h => e2 h.symm), h1]
          by_cases h3 : belI ns i (j : Int) = true
          · rw [if_pos ⟨h3, fun h => hji h.symm⟩, if_pos ⟨h3, e2⟩]
          · rw [if_neg (fun h => h3 h.1), if_neg (fun h => h3 h.1)]
theorem sum_rec_aux {ns : List Node} (hp : Par ns) {o : List Int} (i : Nat) {n : Nat} (hn : n ≤ ns.length) : ∀ m, m ≤ n →
    sg (fun j => if belI ns i (j : Int) = true then oA o j else 0) m = (if i < m then oA o i else 0) + sg (fun k => if prA ns k = (i : Int) then sg (fun j => if belI ns k (j : Int) = true then oA o j else 0) m else 0) n := by
  intro m
  induction m with
  | zero =>
    intro _
    rw [if_neg (by omega), sg_zero (f := fun k => if prA ns k = (i : Int) then sg (fun j => if belI ns k (j : Int) = true then oA o j else 0) 0 else 0) (fun j _ => by split <;> rfl)]
    rfl
  | succ m ih =>
    intro hm
    rw [sg_succ, ih (by omega)]
    have e : sg (fun k => if prA ns k = (i : Int) then sg (fun j => if belI ns k (j : Int) = true then oA o j else 0) (m + 1) else 0) n = sg (fun k => (if prA ns k = (i : Int) then sg (fun j => if belI ns k (j : Int) = true then oA o j else 0) m else 0) + (if prA ns k = (i : Int) ∧ belI ns k (m : Int) = true then oA o m else 0)) n :=
      sg_congr fun k hk => by
        rw [sg_succ]
        by_cases h1 : prA ns k = (i : Int)
        · rw [if_pos h1, if_pos h1]
          by_cases h2 : belI ns k (m : Int) = true
          · rw [if_pos h2, if_pos ⟨h1, h2⟩]
          · rw [if_neg h2, if_neg (fun h => h2 h.2)]
        · rw [if_neg h1, if_neg h1, if_neg (fun h => h1 h.1)]; rfl
    rw [e, sg_add, kid_cnt hp i n hn _ m (by omega)]
    generalize sg (fun k => if prA ns k = (i : Int) then sg (fun j => if belI ns k (j : Int) = true then oA o j else 0) m else 0) n = X
    by_cases e1 : i = m
    · subst e1
      rw [belI_eq, if_neg (show ¬ i < i by omega), if_pos rfl, if_pos (show i < i + 1 by omega), if_neg (show ¬ (true = true ∧ i ≠ i) from fun h => h.2 rfl)]
      omega
    · by_cases h2 : belI ns i (m : Int) = true
      · rw [if_pos h2, if_pos (show belI ns i (m : Int) = true ∧ i ≠ m from ⟨h2, e1⟩)]
        by_cases h3 : i < m
        · have h4 : i < m + 1 := by omega
          simp only [h3, h4, if_true]; omega
        · rw [belI_lt (show (m : Int) < i by omega)] at h2; cases h2
      · rw [if_neg h2, if_neg (show ¬ (belI ns i (m : Int) = true ∧ i ≠ m) from fun h => h2 h.1)]
        by_cases h3 : i < m
        · have h4 : i < m + 1 := by omega
          simp only [h3, h4, if_true]; omega
        · have h4 : ¬ i < m + 1 := by omega
          simp only [h3, h4, if_false]; omega
theorem sumN_rec {ns : List Node} (hp : Par ns) {o : List Int} {i : Nat} (hi : i < o.length) (hl : o.length ≤ ns.length) : sumN ns o i = oA o i + ((kidsI ns o.length i).map (sumN ns o)).sum := by
  rw [kids_sg]
  have := sum_rec_aux hp (o := o) i hl o.length (Nat.le_refl _)
  rw [if_pos hi] at this
  exact this
end Go.SL
namespace Go.SL
/-! ### rows by places -/
def tab (n : Nat) (f : Nat → Int) : List Int := (List.range n).map f
section
variable {n i : Nat} {f g : Nat → Int}
theorem tab_len (n : Nat) (f : Nat → Int) : (tab n f).length = n := by simp [tab]
theorem tab_oA (h : i < n) : oA (tab n f) i = f i := oA_map h
theorem tab_get (h : i < (tab n f).length) : (tab n f)[i] = f i := by simp [tab]
theorem tab_congr (h : ∀ j, j < n → f j = g j) : tab n f = tab n g := List.map_congr_left fun j hj => h j (by simpa using hj)
theorem tab_set (v : Int) : (tab n f).set i v = tab n fun j => if j = i then v else f j := by
  apply List.ext_getElem
  · rw [List.length_set, tab_len, tab_len]
  · intro j h1 h2
    rw [List.getElem_set, tab_get h2]
    by_cases e : i = j
    · rw [if_pos e, if_pos e.symm]
    · rw [if_neg e, if_neg (fun h : j = i => e h.symm), tab_get]
theorem tab_self (o : List Int) : tab o.length (oA o) = o := by
  apply List.ext_getElem
  · rw [tab_len]
  · intro j h1 h2
    rw [tab_get, oA_get h2]
theorem tab_upd {v : Int} (h : ∀ j, j < n → (if j = i then v else f j) = g j) : (tab n f).set i v = tab n g := (tab_set v).trans (tab_congr h)
end
theorem TreeS.node_at {t : TreeS} (i : Nat) : t.node (i : Int) = t.nodes[i]? := by unfold TreeS.node; rw [if_pos (by omega), Int.toNat_natCast]
theorem rep_snoc (o : List Int) (i : Nat) (v : Int) : o ++ List.replicate i v ++ [v] = o ++ List.replicate (i + 1) v := by rw [List.append_assoc, ← List.replicate_succ']
end Go.SL
