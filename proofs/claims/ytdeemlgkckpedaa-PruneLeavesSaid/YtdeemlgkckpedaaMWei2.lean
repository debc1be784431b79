import Derived.Test.YtdeemlgkckpedaaMWei
set_option linter.unusedVariables false
set_option linter.unusedSimpArgs false
namespace Go.SL
/-! ### the best child, and the best of all below -/
def beats (ns : List Node) (S : Nat → Int) (i k : Nat) : Bool := decide (S k < S i) || (decide (S i = S k) && Op.bytesLess (rtA ns k).1 (rtA ns i).1)
def aheadN (ns : List Node) (S : Nat → Int) (i : Nat) (k : Int) : Bool := decide (k < 0) || beats ns S i k.toNat
def bestF (ns : List Node) (S : Nat → Int) (l : List Nat) : Int := l.foldl (fun b k => if aheadN ns S k b = true then (k : Int) else b) (-1)
theorem bestF_snoc (ns : List Node) (S : Nat → Int) (l : List Nat) (k : Nat) : bestF ns S (l ++ [k]) = if aheadN ns S k (bestF ns S l) = true then (k : Int) else bestF ns S l := by
  unfold bestF
  rw [List.foldl_append]
  rfl
theorem beats_irrefl (ns : List Node) (S : Nat → Int) (i : Nat) : beats ns S i i = false := by
  unfold beats
  rw [bl_irrefl]
  simp
theorem beats_asymm {ns : List Node} {S : Nat → Int} {i k : Nat} (h : beats ns S i k = true) (h2 : beats ns S k i = true) : False := by
  unfold beats at h h2
  simp only [Bool.or_eq_true, Bool.and_eq_true, decide_eq_true_eq] at h h2
  rcases h with h | ⟨h, h3⟩
  · rcases h2 with h2 | ⟨h2, _⟩ <;> omega
  · rcases h2 with h2 | ⟨h2, h4⟩
    · omega
    · rw [bl_asymm h3] at h4; cases h4
theorem beats_trans {ns : List Node} {S : Nat → Int} {i j k : Nat} (h : beats ns S i j = true) (h2 : beats ns S j k = true) : beats ns S i k = true := by
  unfold beats at h h2 ⊢
  simp only [Bool.or_eq_true, Bool.and_eq_true, decide_eq_true_eq] at h h2 ⊢
  rcases h with h | ⟨h, h3⟩
  · rcases h2 with h2 | ⟨h2, _⟩ <;> exact .inl (by omega)
  · rcases h2 with h2 | ⟨h2, h4⟩
    · exact .inl (by omega)
    · exact .inr ⟨by omega, bl_trans h4 h3⟩
theorem rtA_inj {ns : List Node} (hd : (ns.map (·.root)).Nodup) {i k : Nat} (hi : i < ns.length) (hk : k < ns.length) (h : rtA ns i = rtA ns k) : i = k := by
  rw [rtA_get hi, rtA_get hk] at h
  exact nodup_get hd (x := ns[i].root) (by rw [List.getElem?_map, List.getElem?_eq_getElem hi]; rfl) (by rw [List.getElem?_map, List.getElem?_eq_getElem hk, h]; rfl)
theorem beats_total {ns : List Node} (hd : (ns.map (·.root)).Nodup) {S : Nat → Int} {i k : Nat} (hi : i < ns.length) (hk : k < ns.length) (hne : i ≠ k) (h : beats ns S i k = false) : beats ns S k i = true := by
  unfold beats at h ⊢
  simp only [Bool.or_eq_false_iff, Bool.and_eq_false_iff, decide_eq_false_iff_not] at h
  simp only [Bool.or_eq_true, Bool.and_eq_true, decide_eq_true_eq]
  obtain ⟨h1, h2⟩ := h
  by_cases e : S i = S k
  · right
    refine ⟨e.symm, ?_⟩
    rcases h2 with h2 | h2
    · exact absurd e h2
    · cases h3 : Op.bytesLess (rtA ns i).1 (rtA ns k).1 with
      | true => rfl
      | false => exact absurd (rtA_inj hd hi hk (Subtype.ext (bl_tri (by rw [(rtA ns i).2, (rtA ns k).2]) h3 h2))) hne
  · left; omega
def IsBest (ns : List Node) (S : Nat → Int) (l : List Nat) (b : Int) : Prop := (l = [] ∧ b = -1) ∨ ∃ k : Nat, b = k ∧ k ∈ l ∧ ∀ j ∈ l, j ≠ k → beats ns S k j = true
theorem bestF_is {ns : List Node} (hd : (ns.map (·.root)).Nodup) (S : Nat → Int) (l : List Nat) (hl : ∀ k ∈ l, k < ns.length) : IsBest ns S l (bestF ns S l) := by
  have key : ∀ m, m ≤ l.length → IsBest ns S (l.take m) (bestF ns S (l.take m)) := by
    intro m
    induction m with
    | zero => intro _; exact .inl ⟨List.take_zero, rfl⟩
    | succ m ih =>
      intro hm
      have ih := ih (by omega)
      have hx := hl l[m] (List.getElem_mem _)
      rw [List.take_succ_eq_append_getElem (by omega), bestF_snoc]
      rcases ih with ⟨e, h⟩ | ⟨k, e, h1, h2⟩
      · rw [h]
        have : aheadN ns S l[m] (-1) = true := by simp [aheadN]
        rw [if_pos this, e]
        exact .inr ⟨l[m], rfl, List.mem_append_right _ List.mem_cons_self, fun j hj hne => by simp at hj; exact absurd hj hne⟩
      · rw [e]
        have hk := hl k (List.mem_of_mem_take h1)
        have ea : aheadN ns S l[m] (k : Int) = beats ns S l[m] k := by unfold aheadN; rw [decide_eq_false (by omega), Bool.false_or, Int.toNat_natCast]
        rw [ea]
        by_cases hb : beats ns S l[m] k = true
        · rw [if_pos hb]
          refine .inr ⟨l[m], rfl, List.mem_append_right _ List.mem_cons_self, fun j hj hne => ?_⟩
          rcases List.mem_append.1 hj with hj | hj
          · by_cases ejk : j = k
            · subst ejk; exact hb
            · exact beats_trans hb (h2 j hj ejk)
          · simp at hj; exact absurd hj hne
        · rw [if_neg hb]
          refine .inr ⟨k, rfl, List.mem_append_left _ h1, fun j hj hne => ?_⟩
          rcases List.mem_append.1 hj with hj | hj
          · exact h2 j hj hne
          · simp at hj
            subst hj
            exact beats_total hd hx hk hne (by simpa using hb)
  have := key l.length (Nat.le_refl _)
  rwa [List.take_length] at this
theorem IsBest.eq {ns : List Node} {S : Nat → Int} {l l' : List Nat} {b b' : Int} (h : IsBest ns S l b) (h' : IsBest ns S l' b') (hm : ∀ k, k ∈ l ↔ k ∈ l') : b = b' := by
  rcases h with ⟨e, h⟩ | ⟨k, e, h1, h2⟩
  · rcases h' with ⟨e', h'⟩ | ⟨k', e', h1', h2'⟩
    · rw [h, h']
    · subst e; exact absurd ((hm k').2 h1') (by simp)
  · rcases h' with ⟨e', h'⟩ | ⟨k', e', h1', h2'⟩
    · subst e'; exact absurd ((hm k).1 h1) (by simp)
    · by_cases hk : k = k'
      · rw [e, e', hk]
      · exact (beats_asymm (h2 k' ((hm k').2 h1') (fun h => hk h.symm)) (h2' k ((hm k).1 h1) hk)).elim
def bestN (ns : List Node) (S : Nat → Int) (n p : Nat) : Int := bestF ns S (kidsI ns n p)
theorem bestN_is {ns : List Node} (hd : (ns.map (·.root)).Nodup) (S : Nat → Int) {n : Nat} (hn : n ≤ ns.length) (p : Nat) : IsBest ns S (kidsI ns n p) (bestN ns S n p) := bestF_is hd S _ fun k hk => by have := (mem_kidsI.1 hk).1; omega
theorem bestN_rg {ns : List Node} (hd : (ns.map (·.root)).Nodup) (hp : Par ns) (S : Nat → Int) {n : Nat} (hn : n ≤ ns.length) (p : Nat) : bestN ns S n p = -1 ∨ ∃ k : Nat, bestN ns S n p = k ∧ p < k ∧ k < n ∧ prA ns k = p := by
  rcases bestN_is hd S hn p with ⟨_, h⟩ | ⟨k, e, h1, _⟩
  · exact .inl h
  · exact .inr ⟨k, e, (kidsI_gt hp hn h1).1, (kidsI_gt hp hn h1).2, (mem_kidsI.1 h1).2⟩
theorem beats_congr {ns ns' : List Node} {S S' : Nat → Int} {i k : Nat} (h1 : S i = S' i) (h2 : S k = S' k) (h3 : rtA ns i = rtA ns' i) (h4 : rtA ns k = rtA ns' k) : beats ns S i k = beats ns' S' i k := by unfold beats; rw [h1, h2, h3, h4]
theorem bestF_congr {ns ns' : List Node} {S S' : Nat → Int} {l : List Nat} (h : ∀ k ∈ l, S k = S' k ∧ rtA ns k = rtA ns' k) : bestF ns S l = bestF ns' S' l := by
  have key : ∀ m, m ≤ l.length → bestF ns S (l.take m) = bestF ns' S' (l.take m) ∧ (bestF ns S (l.take m) = -1 ∨ ∃ k ∈ l, bestF ns S (l.take m) = (k : Nat)) := by
    intro m
    induction m with
    | zero => intro _; exact ⟨rfl, .inl rfl⟩
    | succ m ih =>
      intro hm
      obtain ⟨e1, e2⟩ := ih (by omega)
      have hx := List.getElem_mem (show m < l.length by omega)
      rw [List.take_succ_eq_append_getElem (by omega), bestF_snoc, bestF_snoc, ← e1]
      have e3 : aheadN ns S l[m] (bestF ns S (l.take m)) = aheadN ns' S' l[m] (bestF ns S (l.take m)) := by
        rcases e2 with e2 | ⟨k, hk, e2⟩
        · rw [e2]; simp [aheadN]
        · rw [e2]
          unfold aheadN
          rw [Int.toNat_natCast, beats_congr (h _ hx).1 (h k hk).1 (h _ hx).2 (h k hk).2]
      rw [← e3]
      refine ⟨rfl, ?_⟩
      split
      · exact .inr ⟨_, hx, rfl⟩
      · exact e2
  have := (key l.length (Nat.le_refl _)).1
  rwa [List.take_length] at this
theorem kidsI_app {ns xs : List Node} {n p : Nat} (hn : n ≤ ns.length) : kidsI (ns ++ xs) n p = kidsI ns n p := by
  unfold kidsI
  apply List.filter_congr
  intro k hk
  have : k < n := by simpa using hk
  rw [prA_app (by omega)]
theorem bestN_app {ns xs : List Node} {S : Nat → Int} {n p : Nat} (hn : n ≤ ns.length) : bestN (ns ++ xs) S n p = bestN ns S n p := by
  unfold bestN
  rw [kidsI_app hn]
  exact bestF_congr fun k hk => ⟨rfl, rtA_app (by have := (mem_kidsI.1 hk).1; omega)⟩
theorem bestN_congr {ns : List Node} {S S' : Nat → Int} {n p : Nat} (h : ∀ k, k < n → S k = S' k) : bestN ns S n p = bestN ns S' n p :=
  bestF_congr fun k hk => ⟨h k (mem_kidsI.1 hk).1, rfl⟩
/-- the kids among the last places, the last one first -/
def kidsD (ns : List Node) (n p : Nat) : Nat → List Nat
  | 0 => []
  | m + 1 => kidsD ns n p m ++ (if prA ns (n - m - 1) = (p : Int) then [n - m - 1] else [])
theorem mem_kidsD {ns : List Node} {n p : Nat} : ∀ {m k : Nat}, m ≤ n → (k ∈ kidsD ns n p m ↔ n - m ≤ k ∧ k < n ∧ prA ns k = (p : Int))
  | 0, k, _ => by simp [kidsD]; omega
  | m + 1, k, hm => by
    rw [kidsD, List.mem_append, mem_kidsD (m := m) (by omega)]
    by_cases h : prA ns (n - m - 1) = (p : Int)
    · rw [if_pos h, List.mem_singleton]
      constructor
      · rintro (⟨h1, h2, h3⟩ | rfl)
        · exact ⟨by omega, h2, h3⟩
        · exact ⟨by omega, by omega, h⟩
      · rintro ⟨h1, h2, h3⟩
        by_cases e : k = n - m - 1
        · exact .inr e
        · exact .inl ⟨by omega, h2, h3⟩
    · rw [if_neg h]
      simp only [List.not_mem_nil, or_false]
      constructor
      · rintro ⟨h1, h2, h3⟩; exact ⟨by omega, h2, h3⟩
      · rintro ⟨h1, h2, h3⟩
        refine ⟨?_, h2, h3⟩
        by_cases e : k = n - m - 1
        · subst e; exact absurd h3 h
        · omega
def bestD (ns : List Node) (S : Nat → Int) (n m p : Nat) : Int := bestF ns S (kidsD ns n p m)
theorem bestD_zero (ns : List Node) (S : Nat → Int) (n p : Nat) : bestD ns S n 0 p = -1 := rfl
theorem bestD_succ (ns : List Node) (S : Nat → Int) (n m p : Nat) : bestD ns S n (m + 1) p = if prA ns (n - m - 1) = (p : Int) ∧ aheadN ns S (n - m - 1) (bestD ns S n m p) = true then ((n - m - 1 : Nat) : Int) else bestD ns S n m p := by
  unfold bestD
  rw [kidsD]
  by_cases h : prA ns (n - m - 1) = (p : Int)
  · rw [if_pos h, bestF_snoc]
    by_cases h2 : aheadN ns S (n - m - 1) (bestF ns S (kidsD ns n p m)) = true
    · rw [if_pos h2, if_pos ⟨h, h2⟩]
    · rw [if_neg h2, if_neg (fun q => h2 q.2)]
  · rw [if_neg h, List.append_nil, if_neg (fun q => h q.1)]
theorem bestD_all {ns : List Node} (hd : (ns.map (·.root)).Nodup) (hp : Par ns) (S : Nat → Int) {n : Nat} (hn : n ≤ ns.length) (p : Nat) : bestD ns S n (n - 1) p = bestN ns S n p := by
  refine (bestF_is hd S _ fun k hk => ?_).eq (bestN_is hd S hn p) fun k => ?_
  · have := (mem_kidsD (by omega)).1 hk; omega
  · rw [mem_kidsD (by omega), mem_kidsI]
    constructor
    · rintro ⟨_, h2, h3⟩; exact ⟨h2, h3⟩
    · rintro ⟨h2, h3⟩
      refine ⟨?_, h2, h3⟩
      rcases hp.rg (show k < ns.length by omega) with ⟨h4, h5⟩ | ⟨j, h4, h5⟩ <;> omega
theorem bestD_rg {ns : List Node} (hd : (ns.map (·.root)).Nodup) (S : Nat → Int) {n m : Nat} (hm : m ≤ n) (hn : n ≤ ns.length) (p : Nat) : bestD ns S n m p = -1 ∨ ∃ k : Nat, bestD ns S n m p = k ∧ n - m ≤ k ∧ k < n := by
  rcases bestF_is hd S (kidsD ns n p m) (fun k hk => by have := (mem_kidsD hm).1 hk; omega) with ⟨_, h⟩ | ⟨k, e, h1, _⟩
  · exact .inl h
  · have := (mem_kidsD hm).1 h1
    exact .inr ⟨k, e, this.1, this.2.1⟩
/-! the best of all below -/
def leafF (ns : List Node) (S : Nat → Int) (n : Nat) : Nat → Nat → Nat
  | 0, i => i
  | k + 1, i => if bestN ns S n i < 0 then i else leafF ns S n k (bestN ns S n i).toNat
def leafN (ns : List Node) (S : Nat → Int) (n i : Nat) : Nat := leafF ns S n n i
section
variable {ns : List Node} {S : Nat → Int} {n : Nat}
theorem leafF_fuel (hd : (ns.map (·.root)).Nodup) (hp : Par ns) (hn : n ≤ ns.length) : ∀ k k' i, n - i ≤ k → n - i ≤ k' → leafF ns S n k i = leafF ns S n k' i := by
  intro k
  induction k with
  | zero =>
    intro k' i h1 h2
    cases k' with
    | zero => rfl
    | succ k' =>
      show i = if bestN ns S n i < 0 then i else _
      rcases bestN_rg hd hp S hn i with h | ⟨q, h, h3, h4, _⟩
      · rw [h]; rfl
      · omega
  | succ k ih =>
    intro k' i h1 h2
    show (if bestN ns S n i < 0 then i else leafF ns S n k (bestN ns S n i).toNat) = _
    rcases bestN_rg hd hp S hn i with h | ⟨q, h, h3, h4, _⟩
    · cases k' with
      | zero => rw [h]; rfl
      | succ k' =>
        show _ = (if bestN ns S n i < 0 then i else leafF ns S n k' (bestN ns S n i).toNat)
        rw [h]; rfl
    · cases k' with
      | zero => omega
      | succ k' =>
        show _ = (if bestN ns S n i < 0 then i else leafF ns S n k' (bestN ns S n i).toNat)
        rw [h, if_neg (by omega), if_neg (by omega), Int.toNat_natCast]
        exact ih k' q (by omega) (by omega)
theorem leafN_no (i : Nat) (h : bestN ns S n i < 0) : leafN ns S n i = i := by
  unfold leafN
  cases n with
  | zero => rfl
  | succ k => exact if_pos h
theorem leafN_yes (hd : (ns.map (·.root)).Nodup) (hp : Par ns) (hn : n ≤ ns.length) {i k : Nat} (h : bestN ns S n i = (k : Int)) : leafN ns S n i = leafN ns S n k := by
  rcases bestN_rg hd hp S hn i with h2 | ⟨q, h2, h3, h4, _⟩
  · omega
  · have : k = q := by omega
    subst this
    unfold leafN
    obtain ⟨m, rfl⟩ : ∃ m, n = m + 1 := ⟨n - 1, by omega⟩
    conv => lhs; unfold leafF
    rw [h, if_neg (by omega), Int.toNat_natCast]
    exact leafF_fuel hd hp hn _ _ _ (by omega) (by omega)
theorem leafF_lt (hd : (ns.map (·.root)).Nodup) (hp : Par ns) (hn : n ≤ ns.length) : ∀ k i, i < n → leafF ns S n k i < n
  | 0, i, h => h
  | k + 1, i, h => by
    show (if bestN ns S n i < 0 then i else leafF ns S n k (bestN ns S n i).toNat) < n
    rcases bestN_rg hd hp S hn i with h2 | ⟨q, h2, h3, h4, _⟩
    · rw [h2]; exact h
    · rw [h2, if_neg (by omega), Int.toNat_natCast]
      exact leafF_lt hd hp hn k q h4
theorem leafN_lt (hd : (ns.map (·.root)).Nodup) (hp : Par ns) (hn : n ≤ ns.length) {i : Nat} (h : i < n) : leafN ns S n i < n := leafF_lt hd hp hn n i h
end
theorem leafN_congr {ns : List Node} {S S' : Nat → Int} {n i : Nat} (h : ∀ k, k < n → S k = S' k) : leafN ns S n i = leafN ns S' n i := by
  unfold leafN
  have : ∀ k i, leafF ns S n k i = leafF ns S' n k i := fun k => by
    induction k with
    | zero => intro i; rfl
    | succ k ih =>
      intro i
      show (if bestN ns S n i < 0 then i else leafF ns S n k (bestN ns S n i).toNat) = (if bestN ns S' n i < 0 then i else leafF ns S' n k (bestN ns S' n i).toNat)
      rw [bestN_congr h, ih]
  exact this n i
theorem leafN_app {ns xs : List Node} {S : Nat → Int} {n i : Nat} (hn : n ≤ ns.length) : leafN (ns ++ xs) S n i = leafN ns S n i := by
  unfold leafN
  have : ∀ k i, leafF (ns ++ xs) S n k i = leafF ns S n k i := fun k => by
    induction k with
    | zero => intro i; rfl
    | succ k ih =>
      intro i
      show (if bestN (ns ++ xs) S n i < 0 then i else leafF (ns ++ xs) S n k (bestN (ns ++ xs) S n i).toNat) = (if bestN ns S n i < 0 then i else leafF ns S n k (bestN ns S n i).toNat)
      rw [bestN_app hn, ih]
  exact this n i
def bestL (ns : List Node) (T : List Int) : List Int := (List.range T.length).map (bestN ns (oA T) T.length)
def leafL (ns : List Node) (T : List Int) : List Int := (List.range T.length).map fun i => ((leafN ns (oA T) T.length i : Nat) : Int)
theorem bestL_app {ns xs : List Node} {T : List Int} (h : T.length ≤ ns.length) : bestL (ns ++ xs) T = bestL ns T := by
  unfold bestL
  apply List.map_congr_left
  intro a _
  exact bestN_app h
theorem leafL_app {ns xs : List Node} {T : List Int} (h : T.length ≤ ns.length) : leafL (ns ++ xs) T = leafL ns T := by
  unfold leafL
  apply List.map_congr_left
  intro a _
  rw [leafN_app h]
/-! more, or less -/
def stepO (ns : List Node) (o : List Int) (d : Delta) : Int × List Int :=
  match idxOf ns d.root with
  | none => (7, o)
  | some i => if d.n ≤ -4611686018427387904 ∨ 4611686018427387904 ≤ d.n then (1, o) else if oA o i + d.n < 0 ∨ 4611686018427387904 ≤ oA o i + d.n then (1, o) else (0, o.set i (oA o i + d.n))
def runO (ns : List Node) : List Int → List Delta → Int × List Int
  | o, [] => (0, o)
  | o, d :: r => if (stepO ns o d).1 = 0 then runO ns (stepO ns o d).2 r else ((stepO ns o d).1, o)
theorem runO_app (ns : List Node) : ∀ (a b : List Delta) (o : List Int), (runO ns o a).1 = 0 → runO ns o (a ++ b) = runO ns (runO ns o a).2 b
  | [], b, o, _ => rfl
  | d :: r, b, o, h => by
    have e : ∀ r, runO ns o (d :: r) = if (stepO ns o d).1 = 0 then runO ns (stepO ns o d).2 r else ((stepO ns o d).1, o) := fun _ => rfl
    by_cases h1 : (stepO ns o d).1 = 0
    · rw [e, if_pos h1] at h
      rw [List.cons_append, e, if_pos h1, e, if_pos h1]
      exact runO_app ns r b _ h
    · rw [e, if_neg h1] at h; exact absurd h h1
theorem runO_stop (ns : List Node) : ∀ (a b : List Delta) (o : List Int), (runO ns o a).1 ≠ 0 → (runO ns o (a ++ b)).1 = (runO ns o a).1
  | [], b, o, h => absurd rfl h
  | d :: r, b, o, h => by
    have e : ∀ r, runO ns o (d :: r) = if (stepO ns o d).1 = 0 then runO ns (stepO ns o d).2 r else ((stepO ns o d).1, o) := fun _ => rfl
    by_cases h1 : (stepO ns o d).1 = 0
    · rw [e, if_pos h1] at h
      rw [List.cons_append, e, if_pos h1, e, if_pos h1]
      exact runO_stop ns r b _ h
    · rw [List.cons_append, e, if_neg h1, e, if_neg h1]
theorem runO_next {ns : List Node} {o cur : List Int} {l : List Delta} {i : Nat} (hi : i < l.length) (h : runO ns o (l.take i) = (0, cur)) : runO ns o (l.take (i + 1)) = if (stepO ns cur l[i]).1 = 0 then (0, (stepO ns cur l[i]).2) else ((stepO ns cur l[i]).1, cur) := by
  rw [List.take_succ_eq_append_getElem hi, runO_app ns _ _ _ (by rw [h]), h]
  show (if (stepO ns cur l[i]).1 = 0 then runO ns (stepO ns cur l[i]).2 [] else _) = _
  rfl
theorem runO_bad {ns : List Node} {o cur : List Int} {l : List Delta} {i : Nat} {c : Int} (hi : i < l.length) (h : runO ns o (l.take i) = (0, cur)) (hc : (stepO ns cur l[i]).1 = c) (hc0 : c ≠ 0) : (runO ns o l).1 = c := by
  have h1 := runO_next hi h
  rw [if_neg (by rw [hc]; exact hc0), hc] at h1
  have h2 := runO_stop ns (l.take (i + 1)) (l.drop (i + 1)) o (by rw [h1]; exact hc0)
  rw [List.take_append_drop] at h2
  rw [h2, h1]
theorem stepO_cases (ns : List Node) (o : List Int) (d : Delta) : (idxOf ns d.root = none ∧ stepO ns o d = (7, o)) ∨ ∃ i, idxOf ns d.root = some i ∧ (((d.n ≤ -4611686018427387904 ∨ 4611686018427387904 ≤ d.n) ∧ stepO ns o d = (1, o)) ∨
    (-4611686018427387904 < d.n ∧ d.n < 4611686018427387904 ∧ (((oA o i + d.n < 0 ∨ 4611686018427387904 ≤ oA o i + d.n) ∧ stepO ns o d = (1, o)) ∨ (0 ≤ oA o i + d.n ∧ oA o i + d.n < 4611686018427387904 ∧ stepO ns o d = (0, o.set i (oA o i + d.n)))))) := by
  unfold stepO
  cases h : idxOf ns d.root with
  | none => exact .inl ⟨rfl, rfl⟩
  | some i =>
    right
    refine ⟨i, rfl, ?_⟩
    dsimp only
    by_cases h1 : d.n ≤ -4611686018427387904 ∨ 4611686018427387904 ≤ d.n
    · exact .inl ⟨h1, if_pos h1⟩
    · right
      rw [if_neg h1]
      refine ⟨by omega, by omega, ?_⟩
      by_cases h2 : oA o i + d.n < 0 ∨ 4611686018427387904 ≤ oA o i + d.n
      · exact .inl ⟨h2, if_pos h2⟩
      · exact .inr ⟨by omega, by omega, if_neg h2⟩
theorem stepO_len (ns : List Node) (o : List Int) (d : Delta) : (stepO ns o d).2.length = o.length := by
  rcases stepO_cases ns o d with ⟨_, e⟩ | ⟨i, _, ⟨_, e⟩ | ⟨_, _, ⟨_, e⟩ | ⟨_, _, e⟩⟩⟩ <;> rw [e] <;> simp
theorem runO_len (ns : List Node) : ∀ (l : List Delta) (o : List Int), (runO ns o l).2.length = o.length
  | [], o => rfl
  | d :: r, o => by
    show (if (stepO ns o d).1 = 0 then runO ns (stepO ns o d).2 r else ((stepO ns o d).1, o)).2.length = _
    split
    · rw [runO_len ns r, stepO_len]
    · rfl
/-- own weights that can be -/
def Ent (o : List Int) : Prop := ∀ j, 0 ≤ oA o j ∧ oA o j < 4611686018427387904
theorem OwnOK.ent {o : List Int} (h : OwnOK o) : Ent o := fun j => ⟨h.nn j, h.lt j⟩
theorem Ent.set {o : List Int} (h : Ent o) {i : Nat} {v : Int} (h1 : 0 ≤ v) (h2 : v < 4611686018427387904) : Ent (o.set i v) := fun j => by
  by_cases hi : i < o.length
  · rw [oA_set hi]
    split
    · exact ⟨h1, h2⟩
    · exact h j
  · rw [List.set_eq_of_length_le (by omega)]; exact h j
theorem stepO_ent {ns : List Node} {o : List Int} (h : Ent o) (d : Delta) : Ent (stepO ns o d).2 := by
  rcases stepO_cases ns o d with ⟨_, e⟩ | ⟨i, _, ⟨_, e⟩ | ⟨_, _, ⟨_, e⟩ | ⟨h1, h2, e⟩⟩⟩ <;> rw [e]
  · exact h
  · exact h
  · exact h
  · exact h.set h1 h2
theorem runO_ent {ns : List Node} : ∀ (l : List Delta) {o : List Int}, Ent o → Ent (runO ns o l).2
  | [], o, h => h
  | d :: r, o, h => by
    show Ent (if (stepO ns o d).1 = 0 then runO ns (stepO ns o d).2 r else ((stepO ns o d).1, o)).2
    split
    · exact runO_ent r (stepO_ent h d)
    · exact h
def growO (n : Nat) (o : List Int) : List Int := o ++ List.replicate (n - o.length) 0
theorem growO_len {n : Nat} {o : List Int} (h : o.length ≤ n) : (growO n o).length = n := by unfold growO; simp; omega
/-- own weights behind deltas -/
def applyO (ns : List Node) (o : List Int) (l : List Delta) : Int × List Int :=
  let o1 := growO ns.length o
  if (runO ns o1 l).1 = 0 then (if tot (runO ns o1 l).2 < 4611686018427387904 then (0, (runO ns o1 l).2) else (1, o1)) else ((runO ns o1 l).1, o1)
theorem applyO_len {ns : List Node} {o : List Int} (h : o.length ≤ ns.length) (l : List Delta) : (applyO ns o l).2.length = ns.length := by
  unfold applyO
  dsimp only
  split
  · split
    · rw [runO_len, growO_len h]
    · exact growO_len h
  · exact growO_len h
theorem applyO_ok {ns : List Node} {o : List Int} (h : OwnOK o) (l : List Delta) : OwnOK (applyO ns o l).2 := by
  have h1 : OwnOK (growO ns.length o) := h.zeros _
  unfold applyO
  dsimp only
  split
  · split
    · exact ⟨fun j => (runO_ent l h1.ent j).1, by assumption⟩
    · exact h1
  · exact h1
/-! own weights, of which the last ones are already the next ones -/
def mixO (o u : List Int) (m : Nat) : List Int := o.take (o.length - m) ++ u.drop (o.length - m)
theorem mixO_zero {o u : List Int} (h : u.length = o.length) : mixO o u 0 = o := by unfold mixO; rw [Nat.sub_zero, List.take_length, List.drop_eq_nil_of_le (by omega), List.append_nil]
theorem mixO_all {o u : List Int} (h : u.length = o.length) : mixO o u o.length = u := by unfold mixO; rw [Nat.sub_self]; rfl
theorem mixO_len {o u : List Int} (h : u.length = o.length) (m : Nat) : (mixO o u m).length = o.length := by unfold mixO; simp; omega
theorem mixO_at {o u : List Int} (h : u.length = o.length) (m j : Nat) : oA (mixO o u m) j = if j < o.length - m then oA o j else oA u j := by
  unfold oA mixO
  rw [List.getD_eq_getElem?_getD, List.getD_eq_getElem?_getD, List.getD_eq_getElem?_getD]
  by_cases hj : j < o.length - m
  · rw [if_pos hj, List.getElem?_append_left (by simp; omega), List.getElem?_take_of_lt hj]
  · rw [if_neg hj, List.getElem?_append_right (by simp; omega), List.getElem?_drop]
    congr 2
    simp
    omega
theorem mixO_succ {o u : List Int} (h : u.length = o.length) {m : Nat} (hm : m < o.length) : mixO o u (m + 1) = (mixO o u m).set (o.length - m - 1) (oA u (o.length - m - 1)) := by
  apply List.ext_getElem
  · rw [mixO_len h, List.length_set, mixO_len h]
  · intro j h1 h2
    rw [← oA_get h1, ← oA_get h2, mixO_at h, oA_set (by rw [mixO_len h]; omega), mixO_at h]
    by_cases e : j = o.length - m - 1
    · rw [if_neg (by omega), if_pos e, e]
    · rw [if_neg e]
      by_cases h3 : j < o.length - (m + 1)
      · rw [if_pos h3, if_pos (by omega)]
      · rw [if_neg h3, if_neg (by omega)]
theorem mixO_nn {o u : List Int} (h : u.length = o.length) (ho : ∀ j, 0 ≤ oA o j) (hu : ∀ j, 0 ≤ oA u j) (m j : Nat) : 0 ≤ oA (mixO o u m) j := by
  rw [mixO_at h]
  split
  · exact ho j
  · exact hu j
theorem mixO_tot {o u : List Int} (h : u.length = o.length) (ho : ∀ j, 0 ≤ oA o j) (hu : ∀ j, 0 ≤ oA u j) (m : Nat) : tot (mixO o u m) ≤ tot o + tot u := by
  unfold tot
  rw [mixO_len h, h, ← sg_add]
  refine sg_le fun j _ => ?_
  have := ho j
  have := hu j
  rw [mixO_at h]
  split <;> omega
/-! in between: of the places above one those from one on are yet to come -/
def upL (ns : List Node) (S : Nat → Int) (n i : Nat) (k d : Int) : List Int := (List.range n).map fun a => S a + if belI ns a (i : Int) = true ∧ ¬ belI ns a k = true then d else 0
theorem upL_len (ns : List Node) (S : Nat → Int) (n i : Nat) (k d : Int) : (upL ns S n i k d).length = n := by simp [upL]
theorem upL_first (ns : List Node) (S : Nat → Int) (n i : Nat) (d : Int) : upL ns S n i (i : Int) d = (List.range n).map S := by
  unfold upL
  apply List.map_congr_left
  intro a _
  rw [if_neg (fun h => h.2 h.1)]
  omega
theorem upL_last (ns : List Node) (S : Nat → Int) (n i : Nat) {k : Int} (hk : k < 0) (d : Int) : upL ns S n i k d = (List.range n).map fun a => S a + if belI ns a (i : Int) = true then d else 0 := by
  unfold upL
  apply List.map_congr_left
  intro a _
  by_cases h : belI ns a (i : Int) = true
  · rw [if_pos ⟨h, by rw [belI_neg hk]; simp⟩, if_pos h]
  · rw [if_neg (fun q => h q.1), if_neg h]
theorem upL_step {ns : List Node} (hp : Par ns) {S : Nat → Int} {n i k : Nat} {d : Int} (hk : k < n) (hn : n ≤ ns.length) (hb : belI ns k (i : Int) = true) : (upL ns S n i (k : Int) d).set k (S k + d) = upL ns S n i (prA ns k) d := by
  apply List.ext_getElem
  · rw [List.length_set, upL_len, upL_len]
  · intro a h1 h2
    have ha : a < n := by rw [upL_len] at h2; exact h2
    rw [List.getElem_set]
    simp only [upL, List.getElem_map, List.getElem_range]
    by_cases e : k = a
    · subst e
      rw [if_pos rfl, if_pos]
      refine ⟨hb, ?_⟩
      rcases hp.rg (show k < ns.length by omega) with ⟨_, h4⟩ | ⟨j, h4, h5⟩
      · rw [h4, belI_neg (by decide)]; simp
      · rw [h4, belI_lt (by omega)]; simp
    · rw [if_neg e, belI_pr hp (by omega) e]
theorem upL_at {ns : List Node} {S : Nat → Int} {n i k : Nat} {d : Int} (hk : k < n) : oA (upL ns S n i (k : Int) d) k = S k := by
  unfold upL
  rw [oA_map hk, if_neg (fun h => h.2 belI_eq)]
  omega
theorem belI_step {ns : List Node} (hp : Par ns) {i k : Nat} (hk : k < ns.length) (hi : i < ns.length) (hb : belI ns k (i : Int) = true) : prA ns k = -1 ∨ ∃ j : Nat, prA ns k = j ∧ j < k ∧ belI ns j (i : Int) = true := by
  rcases hp.rg hk with ⟨_, h⟩ | ⟨j, h, h2⟩
  · exact .inl h
  · refine .inr ⟨j, h, h2, belI_trans hp hk hi ?_ hb⟩
    rw [belI_pr hp hk (by omega), h, belI_eq]
end Go.SL
namespace Go.SL
theorem set_get {cur : List Int} {j : Nat} {v : Int} (h : j < (cur.set j v).length) : (cur.set j v)[j] = v := by rw [List.getElem_set_self]
theorem tab_start {n : Nat} {o : List Int} (h : o.length = n) (g : Nat → Int) : tab n (fun j => if j < 0 then g j else oA o j) = o := by
  subst h
  exact (tab_congr fun j _ => if_neg (by omega)).trans (tab_self o)
theorem sg_mono {f : Nat → Int} {m n : Nat} (h : m ≤ n) (hf : ∀ j, j < n → 0 ≤ f j) : sg f m ≤ sg f n := by
  induction n with
  | zero => rw [show m = 0 by omega]; exact Int.le_refl _
  | succ n ih =>
    by_cases e : m = n + 1
    · rw [e]; exact Int.le_refl _
    · have h1 := ih (by omega) fun j hj => hf j (by omega)
      have h2 := hf n (by omega)
      rw [sg_succ]
      omega
def nextO (ns : List Node) (o : List Int) (l : List Delta) : Int := if (runO ns o l).1 = 0 then (if tot (runO ns o l).2 < 4611686018427387904 then 0 else 1) else (runO ns o l).1
theorem nextO_bad {ns : List Node} {o : List Int} {l : List Delta} {c : Int} (h : (runO ns o l).1 = c) (hc : c ≠ 0) : nextO ns o l = c := by unfold nextO; rw [if_neg (by rw [h]; exact hc), h]
theorem nextO_much {ns : List Node} {o cur : List Int} {l : List Delta} (h : runO ns o l = (0, cur)) (ht : ¬ tot cur < 4611686018427387904) : nextO ns o l = 1 := by unfold nextO; rw [h, if_pos rfl, if_neg ht]
theorem nextO_ok {ns : List Node} {o cur : List Int} {l : List Delta} (h : runO ns o l = (0, cur)) (ht : tot cur < 4611686018427387904) : nextO ns o l = 0 := by unfold nextO; rw [h, if_pos rfl, if_pos ht]
theorem nextO_zero {ns : List Node} {o : List Int} {l : List Delta} (h : nextO ns o l = 0) : (runO ns o l).1 = 0 ∧ tot (runO ns o l).2 < 4611686018427387904 := by
  unfold nextO at h
  by_cases h1 : (runO ns o l).1 = 0
  · rw [if_pos h1] at h
    refine ⟨h1, ?_⟩
    by_cases h2 : tot (runO ns o l).2 < 4611686018427387904
    · exact h2
    · rw [if_neg h2] at h; omega
  · rw [if_neg h1] at h; exact absurd h h1
theorem applyO_eq (ns : List Node) (o : List Int) (l : List Delta) : applyO ns o l = if nextO ns (growO ns.length o) l = 0 then (0, (runO ns (growO ns.length o) l).2) else (nextO ns (growO ns.length o) l, growO ns.length o) := by
  by_cases h : nextO ns (growO ns.length o) l = 0
  · obtain ⟨h1, h2⟩ := nextO_zero h
    rw [if_pos h]
    unfold applyO
    dsimp only
    rw [if_pos h1, if_pos h2]
  · rw [if_neg h]
    unfold nextO at h ⊢
    unfold applyO
    dsimp only
    by_cases h1 : (runO ns (growO ns.length o) l).1 = 0
    · rw [if_pos h1] at h ⊢
      rw [if_pos h1]
      by_cases h2 : tot (runO ns (growO ns.length o) l).2 < 4611686018427387904
      · rw [if_pos h2] at h; exact absurd rfl h
      · rw [if_neg h2, if_neg h2]
    · rw [if_neg h1, if_neg h1]
theorem stepO_none {ns : List Node} {cur : List Int} {d : Delta} (h : idxOf ns d.root = none) : stepO ns cur d = (7, cur) := by unfold stepO; rw [h]
theorem stepO_arg {ns : List Node} {cur : List Int} {d : Delta} {i : Nat} (h : idxOf ns d.root = some i) (h2 : d.n ≤ -4611686018427387904 ∨ 4611686018427387904 ≤ d.n) : stepO ns cur d = (1, cur) := by unfold stepO; rw [h]; exact if_pos h2
theorem stepO_out {ns : List Node} {cur : List Int} {d : Delta} {i : Nat} (h : idxOf ns d.root = some i) (h2 : ¬ (d.n ≤ -4611686018427387904 ∨ 4611686018427387904 ≤ d.n)) (h3 : oA cur i + d.n < 0 ∨ 4611686018427387904 ≤ oA cur i + d.n) : stepO ns cur d = (1, cur) := by unfold stepO; rw [h]; dsimp only; rw [if_neg h2, if_pos h3]
theorem stepO_in {ns : List Node} {cur : List Int} {d : Delta} {i : Nat} (h : idxOf ns d.root = some i) (h2 : ¬ (d.n ≤ -4611686018427387904 ∨ 4611686018427387904 ≤ d.n)) (h3 : ¬ (oA cur i + d.n < 0 ∨ 4611686018427387904 ≤ oA cur i + d.n)) : stepO ns cur d = (0, cur.set i (oA cur i + d.n)) := by unfold stepO; rw [h]; dsimp only; rw [if_neg h2, if_neg h3]
theorem runO_go {ns : List Node} {o cur : List Int} {l : List Delta} {i : Nat} {u : List Int} (hi : i < l.length) (h : runO ns o (l.take i) = (0, cur)) (hs : stepO ns cur l[i] = (0, u)) : runO ns o (l.take (i + 1)) = (0, u) := by
  rw [runO_next hi h, hs, if_pos rfl]
theorem runO_fail {ns : List Node} {o cur : List Int} {l : List Delta} {i : Nat} {u : List Int} {c : Int} (hi : i < l.length) (h : runO ns o (l.take i) = (0, cur)) (hs : stepO ns cur l[i] = (c, u)) (hc : c ≠ 0) : nextO ns o l = c :=
  nextO_bad (runO_bad hi h (by rw [hs]) hc) hc
/-- sums behind one place more -/
theorem mix_sum {ns : List Node} {o u : List Int} (h : u.length = o.length) {m : Nat} (hm : m < o.length) (a : Nat) : sumN ns (mixO o u (m + 1)) a = sumN ns (mixO o u m) a + if belI ns a ((o.length - m - 1 : Nat) : Int) = true then oA u (o.length - m - 1) - oA o (o.length - m - 1) else 0 := by
  rw [mixO_succ h hm, sumN_set (by rw [mixO_len h]; omega), mixO_at h, if_pos (show o.length - m - 1 < o.length - m by omega)]
theorem mix_same {ns : List Node} {o u : List Int} (h : u.length = o.length) {m : Nat} (hm : m < o.length) (he : oA u (o.length - m - 1) - oA o (o.length - m - 1) = 0) : sumL ns (mixO o u (m + 1)) = sumL ns (mixO o u m) := by
  unfold sumL
  rw [mixO_len h, mixO_len h]
  refine List.map_congr_left fun a _ => ?_
  rw [mix_sum h hm, he]
  split <;> omega
theorem mix_up {ns : List Node} {o u : List Int} (h : u.length = o.length) {m : Nat} (hm : m < o.length) {k : Int} (hk : k < 0) {i : Nat} (hi : i = o.length - m - 1) : upL ns (sumN ns (mixO o u m)) o.length i k (oA u i - oA o i) = sumL ns (mixO o u (m + 1)) := by
  subst hi
  rw [upL_last _ _ _ _ hk]
  unfold sumL
  rw [mixO_len h]
  exact List.map_congr_left fun a _ => (mix_sum h hm a).symm
theorem up_first {ns : List Node} {o u : List Int} (h : u.length = o.length) (m i : Nat) (d : Int) : upL ns (sumN ns (mixO o u m)) o.length i (i : Int) d = sumL ns (mixO o u m) := by
  rw [upL_first]
  unfold sumL
  rw [mixO_len h]
end Go.SL
namespace Go.SL
/-- a number of a block's place, of those that are known -/
def ofF (t : TreeS) (n : Nat) (f : Nat → Int) (r : Root) : Int := match idxOf t.nodes r with | some i => if i < n then f i else 0 | none => 0
def headW (ns : List Node) (o : List Int) : Root := rtA ns (leafN ns (oA (sumL ns o)) o.length 0)
def bestI (t : TreeS) (o : List Int) (r : Root) : Int := ofF t o.length (fun i => bestN t.nodes (oA (sumL t.nodes o)) o.length i + 1) r - 1
def bestR (t : TreeS) (o : List Int) (r : Root) : Root × Bool := if bestI t o r < 0 then (Root.zero, false) else (rtA t.nodes (bestI t o r).toNat, true)
theorem ofF_no {t : TreeS} {n : Nat} {f : Nat → Int} {r : Root} (h : t.place r < 0 ∨ (n : Int) ≤ t.place r) : ofF t n f r = 0 := by
  unfold ofF
  unfold TreeS.place at h
  cases e : idxOf t.nodes r with
  | none => rfl
  | some i => rw [e] at h; dsimp only at h ⊢; rw [if_neg (by omega)]
theorem ofF_yes {t : TreeS} {n : Nat} {f : Nat → Int} {r : Root} (h : ¬ t.place r < 0) (h2 : t.place r < n) : ∃ i : Nat, t.place r = i ∧ i < n ∧ ofF t n f r = f i := by
  unfold ofF
  unfold TreeS.place at h h2 ⊢
  cases e : idxOf t.nodes r with
  | none => rw [e] at h; exact absurd (by decide) h
  | some i => rw [e] at h2; dsimp only at h2 ⊢; exact ⟨i, rfl, by omega, by rw [if_pos (by omega)]⟩
theorem bestI_rg {t : TreeS} (hw : t.WF) {o : List Int} (ho : o.length ≤ t.nodes.length) (r : Root) : -1 ≤ bestI t o r ∧ bestI t o r < o.length := by
  unfold bestI ofF
  cases e : idxOf t.nodes r with
  | none => dsimp only; omega
  | some i =>
    dsimp only
    split
    · rcases bestN_rg hw.nd hw.pa (oA (sumL t.nodes o)) ho i with h | ⟨k, h, h1, h2, _⟩ <;> omega
    · omega
theorem bestL_at {ns : List Node} {T : List Int} {i : Nat} (h : i < T.length) : oA (bestL ns T) i = bestN ns (oA T) T.length i := oA_map h
theorem leafL_at {ns : List Node} {T : List Int} {i : Nat} (h : i < T.length) : oA (leafL ns T) i = ((leafN ns (oA T) T.length i : Nat) : Int) := oA_map h
theorem bestL_len (ns : List Node) (T : List Int) : (bestL ns T).length = T.length := by simp [bestL]
theorem leafL_len (ns : List Node) (T : List Int) : (leafL ns T).length = T.length := by simp [leafL]
theorem sumL_grow (ns : List Node) (o : List Int) (n : Nat) : sumL ns o ++ List.replicate (n - o.length) 0 = sumL ns (growO n o) := (sumL_zeros _).symm
theorem applyO_run {ns : List Node} {o : List Int} {l : List Delta} (h : nextO ns (growO ns.length o) l = 0) : applyO ns o l = (0, (runO ns (growO ns.length o) l).2) := by rw [applyO_eq, if_pos h]
theorem applyO_err {ns : List Node} {o : List Int} {l : List Delta} (h : nextO ns (growO ns.length o) l ≠ 0) : applyO ns o l = (nextO ns (growO ns.length o) l, growO ns.length o) := by rw [applyO_eq, if_neg h]
end Go.SL
namespace Go.SL
theorem bestR_no {t : TreeS} {o : List Int} {r : Root} (h : bestI t o r < 0) : bestR t o r = (Root.zero, false) := if_pos h
theorem bestR_yes {t : TreeS} {o : List Int} {r : Root} {k : Nat} (h : bestI t o r = (k : Int)) : bestR t o r = (rtA t.nodes k, true) := by unfold bestR; rw [if_neg (by omega), h, Int.toNat_natCast]
end Go.SL
namespace Go.SL
theorem up_pr (t : TreeS) (k : Nat) : t.up (k : Int) = prA t.nodes k := by unfold TreeS.up; rw [if_pos (by omega), Int.toNat_natCast]; rfl
/-- the place of a block that is known -/
def rplW (t : TreeS) (n : Nat) (r : Root) : Int := if (n : Int) ≤ t.place r then -1 else t.place r
theorem ofF_rpl {t : TreeS} {n : Nat} {f : Nat → Int} {r : Root} : (rplW t n r < 0 ∧ ofF t n f r = 0) ∨ ∃ i : Nat, rplW t n r = i ∧ i < n ∧ ofF t n f r = f i := by
  unfold rplW
  by_cases h : (n : Int) ≤ t.place r
  · rw [if_pos h]; exact .inl ⟨by decide, ofF_no (.inr h)⟩
  · rw [if_neg h]
    by_cases h2 : t.place r < 0
    · exact .inl ⟨h2, ofF_no (.inl h2)⟩
    · exact .inr (ofF_yes h2 (by omega))
theorem kidsI_first {ns : List Node} (hp : Par ns) {i : Nat} (hi : i < ns.length) : kidsI ns (i + 1) i = [] := by
  apply List.eq_nil_iff_forall_not_mem.2
  intro k hk
  have := kidsI_gt hp (n := i + 1) (by omega) hk
  omega
theorem msum_take {S : Nat → Int} (l : List Nat) (h : ∀ k ∈ l, 0 ≤ S k) (x : Nat) : 0 ≤ ((l.take x).map S).sum ∧ ((l.take x).map S).sum ≤ (l.map S).sum := by
  induction l generalizing x with
  | nil => simp
  | cons a r ih =>
    have ha := h a List.mem_cons_self
    cases x with
    | zero =>
      have := ih (fun k hk => h k (List.mem_cons_of_mem _ hk)) 0
      simp at this ⊢
      omega
    | succ x =>
      have := ih (fun k hk => h k (List.mem_cons_of_mem _ hk)) x
      rw [List.take_succ_cons, List.map_cons, List.map_cons, List.sum_cons, List.sum_cons]
      omega
theorem msum_succ {S : Nat → Int} (l : List Nat) {x : Nat} (h : x < l.length) : ((l.take (x + 1)).map S).sum = ((l.take x).map S).sum + S l[x] := by
  rw [List.take_succ_eq_append_getElem h, List.map_append, List.sum_append]
  simp
def castL (l : List Nat) : List Int := l.map fun k : Nat => (k : Int)
theorem castL_len (l : List Nat) : (castL l).length = l.length := by simp [castL]
theorem castL_get {l : List Nat} {j : Nat} (h : j < (castL l).length) (h2 : j < l.length) : (castL l)[j] = ((l[j] : Nat) : Int) := by simp [castL]
theorem castL_snoc (l : List Nat) (k : Nat) : castL l ++ [(k : Int)] = castL (l ++ [k]) := by simp [castL]
section
variable {P : Program} {w0 : World} {n : Nat} {f : Fr} {o : Oper} {l l2 : List HProp} {v : Value}
/-- what is left as it was may stand where it stood -/
theorem os_back (h : OS P w0 n o f l (fun u l' => u = v ∧ l' = l2)) (h2 : ∀ w, Sat w0 w l2 → Sat w0 w l) : OS P w0 n o f l (fun u l' => u = v ∧ l' = l) := fun a w r s => by
  refine (h a w r s).mono ?_
  rintro u w' ⟨l', ⟨rfl, rfl⟩, s'⟩
  exact ⟨l, ⟨rfl, rfl⟩, h2 w' s'⟩
end
end Go.SL
