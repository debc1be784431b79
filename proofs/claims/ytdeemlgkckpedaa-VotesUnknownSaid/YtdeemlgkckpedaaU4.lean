import Derived.Test.YtdeemlgkckpedaaProg
import Derived.Test.YtdeemlgkckpedaaU3
set_option linter.unusedVariables false
set_option linter.unusedSimpArgs false
namespace Go.SL
def beats (ns : List Node) (S : Nat → Int) (i k : Nat) : Bool := decide (S k < S i) || (decide (S i = S k) && Op.bytesLess (rtA ns k).1 (rtA ns i).1)
def aheadN (ns : List Node) (S : Nat → Int) (i : Nat) (k : Int) : Bool := decide (k < 0) || beats ns S i k.toNat
def bestF (ns : List Node) (S : Nat → Int) (l : List Nat) : Int := l.foldl (fun b k => if aheadN ns S k b = true then (k : Int) else b) (-1)
theorem bestF_snoc (ns : List Node) (S : Nat → Int) (l : List Nat) (k : Nat) : bestF ns S (l ++ [k]) = if aheadN ns S k (bestF ns S l) = true then (k : Int) else bestF ns S l := by
  unfold bestF
  rw [List.foldl_append]
  rfl
theorem beats_asymm {ns : List Node} {S : Nat → Int} {i k : Nat} (h : beats ns S i k = true) (h2 : beats ns S k i = true) : False := by
  unfold beats at h h2
  simp only [Bool.or_eq_true, Bool.and_eq_true, decide_eq_true_eq] at h h2
  rcases h with h | ⟨h, h3⟩
  · rcases h2 with h2 | ⟨h2, _⟩ <;> omega
  · rcases h2 with h2 | ⟨h2, h4⟩
    · omega
    · rw [bl_asymm h3] at h4; cases h4
theorem beats_trans {ns : List Node} {S : Nat → Int} {i j k : Nat} (h : beats ns S i j = true) (h2 : beats ns S j k = true) : beats ns S i k = true := by
  unfold beats at h h2 ⊢
  simp only [Bool.or_eq_true, Bool.and_eq_true, decide_eq_true_eq] at h h2 ⊢
  rcases h with h | ⟨h, h3⟩
  · rcases h2 with h2 | ⟨h2, _⟩ <;> exact .inl (by omega)
  · rcases h2 with h2 | ⟨h2, h4⟩
    · exact .inl (by omega)
    · exact .inr ⟨by omega, bl_trans h4 h3⟩
theorem rtA_inj {ns : List Node} (hd : (ns.map (·.root)).Nodup) {i k : Nat} (hi : i < ns.length) (hk : k < ns.length) (h : rtA ns i = rtA ns k) : i = k := by
  rw [rtA_get hi, rtA_get hk] at h
  exact nodup_get hd (x := ns[i].root) (by rw [List.getElem?_map, List.getElem?_eq_getElem hi]; rfl) (by rw [List.getElem?_map, List.getElem?_eq_getElem hk, h]; rfl)
theorem beats_total {ns : List Node} (hd : (ns.map (·.root)).Nodup) {S : Nat → Int} {i k : Nat} (hi : i < ns.length) (hk : k < ns.length) (hne : i ≠ k) (h : beats ns S i k = false) : beats ns S k i = true := by
  unfold beats at h ⊢
  simp only [Bool.or_eq_false_iff, Bool.and_eq_false_iff, decide_eq_false_iff_not] at h
  simp only [Bool.or_eq_true, Bool.and_eq_true, decide_eq_true_eq]
  obtain ⟨h1, h2⟩ := h
  by_cases e : S i = S k
  · right
    refine ⟨e.symm, ?_⟩
    rcases h2 with h2 | h2
    · exact absurd e h2
    · cases h3 : Op.bytesLess (rtA ns i).1 (rtA ns k).1 with
      | true => rfl
      | false => exact absurd (rtA_inj hd hi hk (Subtype.ext (bl_tri (by rw [(rtA ns i).2, (rtA ns k).2]) h3 h2))) hne
  · left; omega
def IsBest (ns : List Node) (S : Nat → Int) (l : List Nat) (b : Int) : Prop := (l = [] ∧ b = -1) ∨ ∃ k : Nat, b = k ∧ k ∈ l ∧ ∀ j ∈ l, j ≠ k → beats ns S k j = true
theorem bestF_is {ns : List Node} (hd : (ns.map (·.root)).Nodup) (S : Nat → Int) (l : List Nat) (hl : ∀ k ∈ l, k < ns.length) : IsBest ns S l (bestF ns S l) := by
  have key : ∀ m, m ≤ l.length → IsBest ns S (l.take m) (bestF ns S (l.take m)) := by
    intro m
    induction m with
    | zero => intro _; exact .inl ⟨List.take_zero, rfl⟩
    | succ m ih =>
      intro hm
      have ih := ih (by omega)
      have hx := hl l[m] (List.getElem_mem _)
      rw [List.take_succ_eq_append_getElem (by omega), bestF_snoc]
      rcases ih with ⟨e, h⟩ | ⟨k, e, h1, h2⟩
      · rw [h]
        have : aheadN ns S l[m] (-1) = true := by simp [aheadN]
        rw [if_pos this, e]
        exact .inr ⟨l[m], rfl, List.mem_append_right _ List.mem_cons_self, fun j hj hne => by simp at hj; exact absurd hj hne⟩
      · rw [e]
        have hk := hl k (List.mem_of_mem_take h1)
        have ea : aheadN ns S l[m] (k : Int) = beats ns S l[m] k := by unfold aheadN; rw [decide_eq_false (by omega), Bool.false_or, Int.toNat_natCast]
        rw [ea]
        by_cases hb : beats ns S l[m] k = true
        · rw [if_pos hb]
          refine .inr ⟨l[m], rfl, List.mem_append_right _ List.mem_cons_self, fun j hj hne => ?_⟩
          rcases List.mem_append.1 hj with hj | hj
          · by_cases ejk : j = k
            · subst ejk; exact hb
            · exact beats_trans hb (h2 j hj ejk)
          · simp at hj; exact absurd hj hne
        · rw [if_neg hb]
          refine .inr ⟨k, rfl, List.mem_append_left _ h1, fun j hj hne => ?_⟩
          rcases List.mem_append.1 hj with hj | hj
          · exact h2 j hj hne
          · simp at hj
            subst hj
            exact beats_total hd hx hk hne (by simpa using hb)
  have := key l.length (Nat.le_refl _)
  rwa [List.take_length] at this
theorem IsBest.eq {ns : List Node} {S : Nat → Int} {l l' : List Nat} {b b' : Int} (h : IsBest ns S l b) (h' : IsBest ns S l' b') (hm : ∀ k, k ∈ l ↔ k ∈ l') : b = b' := by
  rcases h with ⟨e, h⟩ | ⟨k, e, h1, h2⟩
  · rcases h' with ⟨e', h'⟩ | ⟨k', e', h1', h2'⟩
    · rw [h, h']
    · subst e; exact absurd ((hm k').2 h1') (by simp)
  · rcases h' with ⟨e', h'⟩ | ⟨k', e', h1', h2'⟩
    · subst e'; exact absurd ((hm k).1 h1) (by simp)
    · by_cases hk : k = k'
      · rw [e, e', hk]
      · exact (beats_asymm (h2 k' ((hm k').2 h1') (fun h => hk h.symm)) (h2' k ((hm k).1 h1) hk)).elim
def bestN (ns : List Node) (S : Nat → Int) (n p : Nat) : Int := bestF ns S (kidsI ns n p)
theorem bestN_is {ns : List Node} (hd : (ns.map (·.root)).Nodup) (S : Nat → Int) {n : Nat} (hn : n ≤ ns.length) (p : Nat) : IsBest ns S (kidsI ns n p) (bestN ns S n p) := bestF_is hd S _ fun k hk => by have := (mem_kidsI.1 hk).1; omega
theorem bestN_rg {ns : List Node} (hd : (ns.map (·.root)).Nodup) (hp : Par ns) (S : Nat → Int) {n : Nat} (hn : n ≤ ns.length) (p : Nat) : bestN ns S n p = -1 ∨ ∃ k : Nat, bestN ns S n p = k ∧ p < k ∧ k < n ∧ prA ns k = p := by
  rcases bestN_is hd S hn p with ⟨_, h⟩ | ⟨k, e, h1, _⟩
  · exact .inl h
  · exact .inr ⟨k, e, (kidsI_gt hp hn h1).1, (kidsI_gt hp hn h1).2, (mem_kidsI.1 h1).2⟩
theorem beats_congr {ns ns' : List Node} {S S' : Nat → Int} {i k : Nat} (h1 : S i = S' i) (h2 : S k = S' k) (h3 : rtA ns i = rtA ns' i) (h4 : rtA ns k = rtA ns' k) : beats ns S i k = beats ns' S' i k := by unfold beats; rw [h1, h2, h3, h4]
theorem bestF_congr {ns ns' : List Node} {S S' : Nat → Int} {l : List Nat} (h : ∀ k ∈ l, S k = S' k ∧ rtA ns k = rtA ns' k) : bestF ns S l = bestF ns' S' l := by
  have key : ∀ m, m ≤ l.length → bestF ns S (l.take m) = bestF ns' S' (l.take m) ∧ (bestF ns S (l.take m) = -1 ∨ ∃ k ∈ l, bestF ns S (l.take m) = (k : Nat)) := by
    intro m
    induction m with
    | zero => intro _; exact ⟨rfl, .inl rfl⟩
    | succ m ih =>
      intro hm
      obtain ⟨e1, e2⟩ := ih (by omega)
      have hx := List.getElem_mem (show m < l.length by omega)
      rw [List.take_succ_eq_append_getElem (by omega), bestF_snoc, bestF_snoc, ← e1]
      have e3 : aheadN ns S l[m] (bestF ns S (l.take m)) = aheadN ns' S' l[m] (bestF ns S (l.take m)) := by
        rcases e2 with e2 | ⟨k, hk, e2⟩
        · rw [e2]; simp [aheadN]
        · rw [e2]
          unfold aheadN
          rw [Int.toNat_natCast, beats_congr (h _ hx).1 (h k hk).1 (h _ hx).2 (h k hk).2]
      rw [← e3]
      refine ⟨rfl, ?_⟩
      split
      · exact .inr ⟨_, hx, rfl⟩
      · exact e2
  have := (key l.length (Nat.le_refl _)).1
  rwa [List.take_length] at this
theorem kidsI_app {ns xs : List Node} {n p : Nat} (hn : n ≤ ns.length) : kidsI (ns ++ xs) n p = kidsI ns n p := by
  unfold kidsI
  apply List.filter_congr
  intro k hk
  have : k < n := by simpa using hk
  rw [prA_app (by omega)]
theorem bestN_app {ns xs : List Node} {S : Nat → Int} {n p : Nat} (hn : n ≤ ns.length) : bestN (ns ++ xs) S n p = bestN ns S n p := by
  unfold bestN
  rw [kidsI_app hn]
  exact bestF_congr fun k hk => ⟨rfl, rtA_app (by have := (mem_kidsI.1 hk).1; omega)⟩
/-- the kids among the last places, the last one first -/
def kidsD (ns : List Node) (n p : Nat) : Nat → List Nat
  | 0 => []
  | m + 1 => kidsD ns n p m ++ (if prA ns (n - m - 1) = (p : Int) then [n - m - 1] else [])
theorem mem_kidsD {ns : List Node} {n p : Nat} : ∀ {m k : Nat}, m ≤ n → (k ∈ kidsD ns n p m ↔ n - m ≤ k ∧ k < n ∧ prA ns k = (p : Int))
  | 0, k, _ => by simp [kidsD]; omega
  | m + 1, k, hm => by
    rw [kidsD, List.mem_append, mem_kidsD (m := m) (by omega)]
    by_cases h : prA ns (n - m - 1) = (p : Int)
    · rw [if_pos h, List.mem_singleton]
      constructor
      · rintro (⟨h1, h2, h3⟩ | rfl)
        · exact ⟨by omega, h2, h3⟩
        · exact ⟨by omega, by omega, h⟩
      · rintro ⟨h1, h2, h3⟩
        by_cases e : k = n - m - 1
        · exact .inr e
        · exact .inl ⟨by omega, h2, h3⟩
    · rw [if_neg h]
      simp only [List.not_mem_nil, or_false]
      constructor
      · rintro ⟨h1, h2, h3⟩; exact ⟨by omega, h2, h3⟩
      · rintro ⟨h1, h2, h3⟩
        refine ⟨?_, h2, h3⟩
        by_cases e : k = n - m - 1
        · subst e; exact absurd h3 h
        · omega
def bestD (ns : List Node) (S : Nat → Int) (n m p : Nat) : Int := bestF ns S (kidsD ns n p m)
theorem bestD_zero (ns : List Node) (S : Nat → Int) (n p : Nat) : bestD ns S n 0 p = -1 := rfl
theorem bestD_succ (ns : List Node) (S : Nat → Int) (n m p : Nat) : bestD ns S n (m + 1) p = if prA ns (n - m - 1) = (p : Int) ∧ aheadN ns S (n - m - 1) (bestD ns S n m p) = true then ((n - m - 1 : Nat) : Int) else bestD ns S n m p := by
  unfold bestD
  rw [kidsD]
  by_cases h : prA ns (n - m - 1) = (p : Int)
  · rw [if_pos h, bestF_snoc]
    by_cases h2 : aheadN ns S (n - m - 1) (bestF ns S (kidsD ns n p m)) = true
    · rw [if_pos h2, if_pos ⟨h, h2⟩]
    · rw [if_neg h2, if_neg (fun q => h2 q.2)]
  · rw [if_neg h, List.append_nil, if_neg (fun q => h q.1)]
theorem bestD_all {ns : List Node} (hd : (ns.map (·.root)).Nodup) (hp : Par ns) (S : Nat → Int) {n : Nat} (hn : n ≤ ns.length) (p : Nat) : bestD ns S n (n - 1) p = bestN ns S n p := by
  refine (bestF_is hd S _ fun k hk => ?_).eq (bestN_is hd S hn p) fun k => ?_
  · have := (mem_kidsD (by omega)).1 hk; omega
  · rw [mem_kidsD (by omega), mem_kidsI]
    constructor
    · rintro ⟨_, h2, h3⟩; exact ⟨h2, h3⟩
    · rintro ⟨h2, h3⟩
      refine ⟨?_, h2, h3⟩
      rcases hp.rg (show k < ns.length by omega) with ⟨h4, h5⟩ | ⟨j, h4, h5⟩ <;> omega
theorem bestD_rg {ns : List Node} (hd : (ns.map (·.root)).Nodup) (S : Nat → Int) {n m : Nat} (hm : m ≤ n) (hn : n ≤ ns.length) (p : Nat) : bestD ns S n m p = -1 ∨ ∃ k : Nat, bestD ns S n m p = k ∧ n - m ≤ k ∧ k < n := by
  rcases bestF_is hd S (kidsD ns n p m) (fun k hk => by have := (mem_kidsD hm).1 hk; omega) with ⟨_, h⟩ | ⟨k, e, h1, _⟩
  · exact .inl h
  · have := (mem_kidsD hm).1 h1
    exact .inr ⟨k, e, this.1, this.2.1⟩
def leafF (ns : List Node) (S : Nat → Int) (n : Nat) : Nat → Nat → Nat
  | 0, i => i
  | k + 1, i => if bestN ns S n i < 0 then i else leafF ns S n k (bestN ns S n i).toNat
def leafN (ns : List Node) (S : Nat → Int) (n i : Nat) : Nat := leafF ns S n n i
section
variable {ns : List Node} {S : Nat → Int} {n : Nat}
theorem leafF_fuel (hd : (ns.map (·.root)).Nodup) (hp : Par ns) (hn : n ≤ ns.length) : ∀ k k' i, n - i ≤ k → n - i ≤ k' → leafF ns S n k i = leafF ns S n k' i := by
  intro k
  induction k with
  | zero =>
    intro k' i h1 h2
    cases k' with
    | zero => rfl
    | succ k' =>
      show i = if bestN ns S n i < 0 then i else _
      rcases bestN_rg hd hp S hn i with h | ⟨q, h, h3, h4, _⟩
      · rw [h]; rfl
      · omega
  | succ k ih =>
    intro k' i h1 h2
    show (if bestN ns S n i < 0 then i else leafF ns S n k (bestN ns S n i).toNat) = _
    rcases bestN_rg hd hp S hn i with h | ⟨q, h, h3, h4, _⟩
    · cases k' with
      | zero => rw [h]; rfl
      | succ k' =>
        show _ = (if bestN ns S n i < 0 then i else leafF ns S n k' (bestN ns S n i).toNat)
        rw [h]; rfl
    · cases k' with
      | zero => omega
      | succ k' =>
        show _ = (if bestN ns S n i < 0 then i else leafF ns S n k' (bestN ns S n i).toNat)
        rw [h, if_neg (by omega), if_neg (by omega), Int.toNat_natCast]
        exact ih k' q (by omega) (by omega)
theorem leafN_no (i : Nat) (h : bestN ns S n i < 0) : leafN ns S n i = i := by
  unfold leafN
  cases n with
  | zero => rfl
  | succ k => exact if_pos h
theorem leafN_yes (hd : (ns.map (·.root)).Nodup) (hp : Par ns) (hn : n ≤ ns.length) {i k : Nat} (h : bestN ns S n i = (k : Int)) : leafN ns S n i = leafN ns S n k := by
  rcases bestN_rg hd hp S hn i with h2 | ⟨q, h2, h3, h4, _⟩
  · omega
  · have : k = q := by omega
    subst this
    unfold leafN
    obtain ⟨m, rfl⟩ : ∃ m, n = m + 1 := ⟨n - 1, by omega⟩
    conv => lhs; unfold leafF
    rw [h, if_neg (by omega), Int.toNat_natCast]
    exact leafF_fuel hd hp hn _ _ _ (by omega) (by omega)
end
theorem leafN_app {ns xs : List Node} {S : Nat → Int} {n i : Nat} (hn : n ≤ ns.length) : leafN (ns ++ xs) S n i = leafN ns S n i := by
  unfold leafN
  have : ∀ k i, leafF (ns ++ xs) S n k i = leafF ns S n k i := fun k => by
    induction k with
    | zero => intro i; rfl
    | succ k ih =>
      intro i
      show (if bestN (ns ++ xs) S n i < 0 then i else leafF (ns ++ xs) S n k (bestN (ns ++ xs) S n i).toNat) = (if bestN ns S n i < 0 then i else leafF ns S n k (bestN ns S n i).toNat)
      rw [bestN_app hn, ih]
  exact this n i
def bestL (ns : List Node) (T : List Int) : List Int := (List.range T.length).map (bestN ns (oA T) T.length)
def leafL (ns : List Node) (T : List Int) : List Int := (List.range T.length).map fun i => ((leafN ns (oA T) T.length i : Nat) : Int)
theorem bestL_app {ns xs : List Node} {T : List Int} (h : T.length ≤ ns.length) : bestL (ns ++ xs) T = bestL ns T := by
  unfold bestL
  apply List.map_congr_left
  intro a _
  exact bestN_app h
theorem leafL_app {ns xs : List Node} {T : List Int} (h : T.length ≤ ns.length) : leafL (ns ++ xs) T = leafL ns T := by
  unfold leafL
  apply List.map_congr_left
  intro a _
  rw [leafN_app h]
def stepO (ns : List Node) (o : List Int) (d : Delta) : Int × List Int :=
  match idxOf ns d.root with
  | none => (7, o)
  | some i => if d.n ≤ -4611686018427387904 ∨ 4611686018427387904 ≤ d.n then (1, o) else if oA o i + d.n < 0 ∨ 4611686018427387904 ≤ oA o i + d.n then (1, o) else (0, o.set i (oA o i + d.n))
def runO (ns : List Node) : List Int → List Delta → Int × List Int
  | o, [] => (0, o)
  | o, d :: r => if (stepO ns o d).1 = 0 then runO ns (stepO ns o d).2 r else ((stepO ns o d).1, o)
theorem runO_app (ns : List Node) : ∀ (a b : List Delta) (o : List Int), (runO ns o a).1 = 0 → runO ns o (a ++ b) = runO ns (runO ns o a).2 b
  | [], b, o, _ => rfl
  | d :: r, b, o, h => by
    have e : ∀ r, runO ns o (d :: r) = if (stepO ns o d).1 = 0 then runO ns (stepO ns o d).2 r else ((stepO ns o d).1, o) := fun _ => rfl
    by_cases h1 : (stepO ns o d).1 = 0
    · rw [e, if_pos h1] at h
      rw [List.cons_append, e, if_pos h1, e, if_pos h1]
      exact runO_app ns r b _ h
    · rw [e, if_neg h1] at h; exact absurd h h1
theorem runO_stop (ns : List Node) : ∀ (a b : List Delta) (o : List Int), (runO ns o a).1 ≠ 0 → (runO ns o (a ++ b)).1 = (runO ns o a).1
  | [], b, o, h => absurd rfl h
  | d :: r, b, o, h => by
    have e : ∀ r, runO ns o (d :: r) = if (stepO ns o d).1 = 0 then runO ns (stepO ns o d).2 r else ((stepO ns o d).1, o) := fun _ => rfl
    by_cases h1 : (stepO ns o d).1 = 0
    · rw [e, if_pos h1] at h
      rw [List.cons_append, e, if_pos h1, e, if_pos h1]
      exact runO_stop ns r b _ h
    · rw [List.cons_append, e, if_neg h1, e, if_neg h1]
theorem runO_next {ns : List Node} {o cur : List Int} {l : List Delta} {i : Nat} (hi : i < l.length) (h : runO ns o (l.take i) = (0, cur)) : runO ns o (l.take (i + 1)) = if (stepO ns cur l[i]).1 = 0 then (0, (stepO ns cur l[i]).2) else ((stepO ns cur l[i]).1, cur) := by
  rw [List.take_succ_eq_append_getElem hi, runO_app ns _ _ _ (by rw [h]), h]
  show (if (stepO ns cur l[i]).1 = 0 then runO ns (stepO ns cur l[i]).2 [] else _) = _
  rfl
theorem runO_bad {ns : List Node} {o cur : List Int} {l : List Delta} {i : Nat} {c : Int} (hi : i < l.length) (h : runO ns o (l.take i) = (0, cur)) (hc : (stepO ns cur l[i]).1 = c) (hc0 : c ≠ 0) : (runO ns o l).1 = c := by
  have h1 := runO_next hi h
  rw [if_neg (by rw [hc]; exact hc0), hc] at h1
  have h2 := runO_stop ns (l.take (i + 1)) (l.drop (i + 1)) o (by rw [h1]; exact hc0)
  rw [List.take_append_drop] at h2
  rw [h2, h1]
theorem stepO_cases (ns : List Node) (o : List Int) (d : Delta) : (idxOf ns d.root = none ∧ stepO ns o d = (7, o)) ∨ ∃ i, idxOf ns d.root = some i ∧ (((d.n ≤ -4611686018427387904 ∨ 4611686018427387904 ≤ d.n) ∧ stepO ns o d = (1, o)) ∨
    (-4611686018427387904 < d.n ∧ d.n < 4611686018427387904 ∧ (((oA o i + d.n < 0 ∨ 4611686018427387904 ≤ oA o i + d.n) ∧ stepO ns o d = (1, o)) ∨ (0 ≤ oA o i + d.n ∧ oA o i + d.n < 4611686018427387904 ∧ stepO ns o d = (0, o.set i (oA o i + d.n)))))) := by
  unfold stepO
  cases h : idxOf ns d.root with
  | none => exact .inl ⟨rfl, rfl⟩
  | some i =>
    right
    refine ⟨i, rfl, ?_⟩
    dsimp only
    by_cases h1 : d.n ≤ -4611686018427387904 ∨ 4611686018427387904 ≤ d.n
    · exact .inl ⟨h1, if_pos h1⟩
    · right
      rw [if_neg h1]
      refine ⟨by omega, by omega, ?_⟩
      by_cases h2 : oA o i + d.n < 0 ∨ 4611686018427387904 ≤ oA o i + d.n
      · exact .inl ⟨h2, if_pos h2⟩
      · exact .inr ⟨by omega, by omega, if_neg h2⟩
theorem stepO_len (ns : List Node) (o : List Int) (d : Delta) : (stepO ns o d).2.length = o.length := by
  rcases stepO_cases ns o d with ⟨_, e⟩ | ⟨i, _, ⟨_, e⟩ | ⟨_, _, ⟨_, e⟩ | ⟨_, _, e⟩⟩⟩ <;> rw [e] <;> simp
theorem runO_len (ns : List Node) : ∀ (l : List Delta) (o : List Int), (runO ns o l).2.length = o.length
  | [], o => rfl
  | d :: r, o => by
    show (if (stepO ns o d).1 = 0 then runO ns (stepO ns o d).2 r else ((stepO ns o d).1, o)).2.length = _
    split
    · rw [runO_len ns r, stepO_len]
    · rfl
/-- own weights that can be -/
def Ent (o : List Int) : Prop := ∀ j, 0 ≤ oA o j ∧ oA o j < 4611686018427387904
theorem OwnOK.ent {o : List Int} (h : OwnOK o) : Ent o := fun j => ⟨h.nn j, h.lt j⟩
theorem Ent.set {o : List Int} (h : Ent o) {i : Nat} {v : Int} (h1 : 0 ≤ v) (h2 : v < 4611686018427387904) : Ent (o.set i v) := fun j => by
  by_cases hi : i < o.length
  · rw [oA_set hi]
    split
    · exact ⟨h1, h2⟩
    · exact h j
  · rw [List.set_eq_of_length_le (by omega)]; exact h j
theorem stepO_ent {ns : List Node} {o : List Int} (h : Ent o) (d : Delta) : Ent (stepO ns o d).2 := by
  rcases stepO_cases ns o d with ⟨_, e⟩ | ⟨i, _, ⟨_, e⟩ | ⟨_, _, ⟨_, e⟩ | ⟨h1, h2, e⟩⟩⟩ <;> rw [e]
  · exact h
  · exact h
  · exact h
  · exact h.set h1 h2
theorem runO_ent {ns : List Node} : ∀ (l : List Delta) {o : List Int}, Ent o → Ent (runO ns o l).2
  | [], o, h => h
  | d :: r, o, h => by
    show Ent (if (stepO ns o d).1 = 0 then runO ns (stepO ns o d).2 r else ((stepO ns o d).1, o)).2
    split
    · exact runO_ent r (stepO_ent h d)
    · exact h
def growO (n : Nat) (o : List Int) : List Int := o ++ List.replicate (n - o.length) 0
theorem growO_len {n : Nat} {o : List Int} (h : o.length ≤ n) : (growO n o).length = n := by unfold growO; simp; omega
/-- own weights behind deltas -/
def applyO (ns : List Node) (o : List Int) (l : List Delta) : Int × List Int :=
  let o1 := growO ns.length o
  if (runO ns o1 l).1 = 0 then (if tot (runO ns o1 l).2 < 4611686018427387904 then (0, (runO ns o1 l).2) else (1, o1)) else ((runO ns o1 l).1, o1)
theorem applyO_len {ns : List Node} {o : List Int} (h : o.length ≤ ns.length) (l : List Delta) : (applyO ns o l).2.length = ns.length := by
  unfold applyO
  dsimp only
  split
  · split
    · rw [runO_len, growO_len h]
    · exact growO_len h
  · exact growO_len h
theorem applyO_ok {ns : List Node} {o : List Int} (h : OwnOK o) (l : List Delta) : OwnOK (applyO ns o l).2 := by
  have h1 : OwnOK (growO ns.length o) := h.zeros _
  unfold applyO
  dsimp only
  split
  · split
    · exact ⟨fun j => (runO_ent l h1.ent j).1, by assumption⟩
    · exact h1
  · exact h1
def mixO (o u : List Int) (m : Nat) : List Int := o.take (o.length - m) ++ u.drop (o.length - m)
theorem mixO_zero {o u : List Int} (h : u.length = o.length) : mixO o u 0 = o := by unfold mixO; rw [Nat.sub_zero, List.take_length, List.drop_eq_nil_of_le (by omega), List.append_nil]
theorem mixO_all {o u : List Int} (h : u.length = o.length) : mixO o u o.length = u := by unfold mixO; rw [Nat.sub_self]; rfl
theorem mixO_len {o u : List Int} (h : u.length = o.length) (m : Nat) : (mixO o u m).length = o.length := by unfold mixO; simp; omega
theorem mixO_at {o u : List Int} (h : u.length = o.length) (m j : Nat) : oA (mixO o u m) j = if j < o.length - m then oA o j else oA u j := by
  unfold oA mixO
  rw [List.getD_eq_getElem?_getD, List.getD_eq_getElem?_getD, List.getD_eq_getElem?_getD]
  by_cases hj : j < o.length - m
  · rw [if_pos hj, List.getElem?_append_left (by simp; omega), List.getElem?_take_of_lt hj]
  · rw [if_neg hj, List.getElem?_append_right (by simp; omega), List.getElem?_drop]
    congr 2
    simp
    omega
theorem mixO_succ {o u : List Int} (h : u.length = o.length) {m : Nat} (hm : m < o.length) : mixO o u (m + 1) = (mixO o u m).set (o.length - m - 1) (oA u (o.length - m - 1)) := by
  apply List.ext_getElem
  · rw [mixO_len h, List.length_set, mixO_len h]
  · intro j h1 h2
    rw [← oA_get h1, ← oA_get h2, mixO_at h, oA_set (by rw [mixO_len h]; omega), mixO_at h]
    by_cases e : j = o.length - m - 1
    · rw [if_neg (by omega), if_pos e, e]
    · rw [if_neg e]
      by_cases h3 : j < o.length - (m + 1)
      · rw [if_pos h3, if_pos (by omega)]
      · rw [if_neg h3, if_neg (by omega)]
theorem mixO_nn {o u : List Int} (h : u.length = o.length) (ho : ∀ j, 0 ≤ oA o j) (hu : ∀ j, 0 ≤ oA u j) (m j : Nat) : 0 ≤ oA (mixO o u m) j := by
  rw [mixO_at h]
  split
  · exact ho j
  · exact hu j
theorem mixO_tot {o u : List Int} (h : u.length = o.length) (ho : ∀ j, 0 ≤ oA o j) (hu : ∀ j, 0 ≤ oA u j) (m : Nat) : tot (mixO o u m) ≤ tot o + tot u := by
  unfold tot
  rw [mixO_len h, h, ← sg_add]
  refine sg_le fun j _ => ?_
  have := ho j
  have := hu j
  rw [mixO_at h]
  split <;> omega
def upL (ns : List Node) (S : Nat → Int) (n i : Nat) (k d : Int) : List Int := (List.range n).map fun a => S a + if belI ns a (i : Int) = true ∧ ¬ belI ns a k = true then d else 0
theorem upL_len (ns : List Node) (S : Nat → Int) (n i : Nat) (k d : Int) : (upL ns S n i k d).length = n := by simp [upL]
theorem upL_first (ns : List Node) (S : Nat → Int) (n i : Nat) (d : Int) : upL ns S n i (i : Int) d = (List.range n).map S := by
  unfold upL
  apply List.map_congr_left
  intro a _
  rw [if_neg (fun h => h.2 h.1)]
  omega
theorem upL_last (ns : List Node) (S : Nat → Int) (n i : Nat) {k : Int} (hk : k < 0) (d : Int) : upL ns S n i k d = (List.range n).map fun a => S a + if belI ns a (i : Int) = true then d else 0 := by
  unfold upL
  apply List.map_congr_left
  intro a _
  by_cases h : belI ns a (i : Int) = true
  · rw [if_pos ⟨h, by rw [belI_neg hk]; simp⟩, if_pos h]
  · rw [if_neg (fun q => h q.1), if_neg h]
theorem upL_step {ns : List Node} (hp : Par ns) {S : Nat → Int} {n i k : Nat} {d : Int} (hk : k < n) (hn : n ≤ ns.length) (hb : belI ns k (i : Int) = true) : (upL ns S n i (k : Int) d).set k (S k + d) = upL ns S n i (prA ns k) d := by
  apply List.ext_getElem
  · rw [List.length_set, upL_len, upL_len]
  · intro a h1 h2
    have ha : a < n := by rw [upL_len] at h2; exact h2
    rw [List.getElem_set]
    simp only [upL, List.getElem_map, List.getElem_range]
    by_cases e : k = a
    · subst e
      rw [if_pos rfl, if_pos]
      refine ⟨hb, ?_⟩
      rcases hp.rg (show k < ns.length by omega) with ⟨_, h4⟩ | ⟨j, h4, h5⟩
      · rw [h4, belI_neg (by decide)]; simp
      · rw [h4, belI_lt (by omega)]; simp
    · rw [if_neg e, belI_pr hp (by omega) e]
theorem upL_at {ns : List Node} {S : Nat → Int} {n i k : Nat} {d : Int} (hk : k < n) : oA (upL ns S n i (k : Int) d) k = S k := by
  unfold upL
  rw [oA_map hk, if_neg (fun h => h.2 belI_eq)]
  omega
theorem belI_step {ns : List Node} (hp : Par ns) {i k : Nat} (hk : k < ns.length) (hi : i < ns.length) (hb : belI ns k (i : Int) = true) : prA ns k = -1 ∨ ∃ j : Nat, prA ns k = j ∧ j < k ∧ belI ns j (i : Int) = true := by
  rcases hp.rg hk with ⟨_, h⟩ | ⟨j, h, h2⟩
  · exact .inl h
  · refine .inr ⟨j, h, h2, belI_trans hp hk hi ?_ hb⟩
    rw [belI_pr hp hk (by omega), h, belI_eq]
end Go.SL
namespace Go.SL
theorem set_get {cur : List Int} {j : Nat} {v : Int} (h : j < (cur.set j v).length) : (cur.set j v)[j] = v := by rw [List.getElem_set_self]
theorem tab_start {n : Nat} {o : List Int} (h : o.length = n) (g : Nat → Int) : tab n (fun j => if j < 0 then g j else oA o j) = o := by
  subst h
  exact (tab_congr fun j _ => if_neg (by omega)).trans (tab_self o)
theorem sg_mono {f : Nat → Int} {m n : Nat} (h : m ≤ n) (hf : ∀ j, j < n → 0 ≤ f j) : sg f m ≤ sg f n := by
  induction n with
  | zero => rw [show m = 0 by omega]; exact Int.le_refl _
  | succ n ih =>
    by_cases e : m = n + 1
    · rw [e]; exact Int.le_refl _
    · have h1 := ih (by omega) fun j hj => hf j (by omega)
      have h2 := hf n (by omega)
      rw [sg_succ]
      omega
def nextO (ns : List Node) (o : List Int) (l : List Delta) : Int := if (runO ns o l).1 = 0 then (if tot (runO ns o l).2 < 4611686018427387904 then 0 else 1) else (runO ns o l).1
theorem nextO_bad {ns : List Node} {o : List Int} {l : List Delta} {c : Int} (h : (runO ns o l).1 = c) (hc : c ≠ 0) : nextO ns o l = c := by unfold nextO; rw [if_neg (by rw [h]; exact hc), h]
theorem nextO_much {ns : List Node} {o cur : List Int} {l : List Delta} (h : runO ns o l = (0, cur)) (ht : ¬ tot cur < 4611686018427387904) : nextO ns o l = 1 := by unfold nextO; rw [h, if_pos rfl, if_neg ht]
theorem nextO_ok {ns : List Node} {o cur : List Int} {l : List Delta} (h : runO ns o l = (0, cur)) (ht : tot cur < 4611686018427387904) : nextO ns o l = 0 := by unfold nextO; rw [h, if_pos rfl, if_pos ht]
theorem nextO_zero {ns : List Node} {o : List Int} {l : List Delta} (h : nextO ns o l = 0) : (runO ns o l).1 = 0 ∧ tot (runO ns o l).2 < 4611686018427387904 := by
  unfold nextO at h
  by_cases h1 : (runO ns o l).1 = 0
  · rw [if_pos h1] at h
    refine ⟨h1, ?_⟩
    by_cases h2 : tot (runO ns o l).2 < 4611686018427387904
    · exact h2
    · rw [if_neg h2] at h; omega
  · rw [if_neg h1] at h; exact absurd h h1
theorem applyO_eq (ns : List Node) (o : List Int) (l : List Delta) : applyO ns o l = if nextO ns (growO ns.length o) l = 0 then (0, (runO ns (growO ns.length o) l).2) else (nextO ns (growO ns.length o) l, growO ns.length o) := by
  by_cases h : nextO ns (growO ns.length o) l = 0
  · obtain ⟨h1, h2⟩ := nextO_zero h
    rw [if_pos h]
    unfold applyO
    dsimp only
    rw [if_pos h1, if_pos h2]
  · rw [if_neg h]
    unfold nextO at h ⊢
    unfold applyO
    dsimp only
    by_cases h1 : (runO ns (growO ns.length o) l).1 = 0
    · rw [if_pos h1] at h ⊢
      rw [if_pos h1]
      by_cases h2 : tot (runO ns (growO ns.length o) l).2 < 4611686018427387904
      · rw [if_pos h2] at h; exact absurd rfl h
      · rw [if_neg h2, if_neg h2]
    · rw [if_neg h1, if_neg h1]
theorem stepO_none {ns : List Node} {cur : List Int} {d : Delta} (h : idxOf ns d.root = none) : stepO ns cur d = (7, cur) := by unfold stepO; rw [h]
theorem stepO_arg {ns : List Node} {cur : List Int} {d : Delta} {i : Nat} (h : idxOf ns d.root = some i) (h2 : d.n ≤ -4611686018427387904 ∨ 4611686018427387904 ≤ d.n) : stepO ns cur d = (1, cur) := by unfold stepO; rw [h]; exact if_pos h2
theorem stepO_out {ns : List Node} {cur : List Int} {d : Delta} {i : Nat} (h : idxOf ns d.root = some i) (h2 : ¬ (d.n ≤ -4611686018427387904 ∨ 4611686018427387904 ≤ d.n)) (h3 : oA cur i + d.n < 0 ∨ 4611686018427387904 ≤ oA cur i + d.n) : stepO ns cur d = (1, cur) := by unfold stepO; rw [h]; dsimp only; rw [if_neg h2, if_pos h3]
theorem stepO_in {ns : List Node} {cur : List Int} {d : Delta} {i : Nat} (h : idxOf ns d.root = some i) (h2 : ¬ (d.n ≤ -4611686018427387904 ∨ 4611686018427387904 ≤ d.n)) (h3 : ¬ (oA cur i + d.n < 0 ∨ 4611686018427387904 ≤ oA cur i + d.n)) : stepO ns cur d = (0, cur.set i (oA cur i + d.n)) := by unfold stepO; rw [h]; dsimp only; rw [if_neg h2, if_neg h3]
theorem runO_go {ns : List Node} {o cur : List Int} {l : List Delta} {i : Nat} {u : List Int} (hi : i < l.length) (h : runO ns o (l.take i) = (0, cur)) (hs : stepO ns cur l[i] = (0, u)) : runO ns o (l.take (i + 1)) = (0, u) := by
  rw [runO_next hi h, hs, if_pos rfl]
theorem runO_fail {ns : List Node} {o cur : List Int} {l : List Delta} {i : Nat} {u : List Int} {c : Int} (hi : i < l.length) (h : runO ns o (l.take i) = (0, cur)) (hs : stepO ns cur l[i] = (c, u)) (hc : c ≠ 0) : nextO ns o l = c :=
  nextO_bad (runO_bad hi h (by rw [hs]) hc) hc
/-- sums behind one place more -/
theorem mix_sum {ns : List Node} {o u : List Int} (h : u.length = o.length) {m : Nat} (hm : m < o.length) (a : Nat) : sumN ns (mixO o u (m + 1)) a = sumN ns (mixO o u m) a + if belI ns a ((o.length - m - 1 : Nat) : Int) = true then oA u (o.length - m - 1) - oA o (o.length - m - 1) else 0 := by
  rw [mixO_succ h hm, sumN_set (by rw [mixO_len h]; omega), mixO_at h, if_pos (show o.length - m - 1 < o.length - m by omega)]
theorem mix_same {ns : List Node} {o u : List Int} (h : u.length = o.length) {m : Nat} (hm : m < o.length) (he : oA u (o.length - m - 1) - oA o (o.length - m - 1) = 0) : sumL ns (mixO o u (m + 1)) = sumL ns (mixO o u m) := by
  unfold sumL
  rw [mixO_len h, mixO_len h]
  refine List.map_congr_left fun a _ => ?_
  rw [mix_sum h hm, he]
  split <;> omega
theorem mix_up {ns : List Node} {o u : List Int} (h : u.length = o.length) {m : Nat} (hm : m < o.length) {k : Int} (hk : k < 0) {i : Nat} (hi : i = o.length - m - 1) : upL ns (sumN ns (mixO o u m)) o.length i k (oA u i - oA o i) = sumL ns (mixO o u (m + 1)) := by
  subst hi
  rw [upL_last _ _ _ _ hk]
  unfold sumL
  rw [mixO_len h]
  exact List.map_congr_left fun a _ => (mix_sum h hm a).symm
theorem up_first {ns : List Node} {o u : List Int} (h : u.length = o.length) (m i : Nat) (d : Int) : upL ns (sumN ns (mixO o u m)) o.length i (i : Int) d = sumL ns (mixO o u m) := by
  rw [upL_first]
  unfold sumL
  rw [mixO_len h]
end Go.SL
namespace Go.SL
/-- a number of a block's place, of those that are known -/
def ofF (t : TreeS) (n : Nat) (f : Nat → Int) (r : Root) : Int := match idxOf t.nodes r with | some i => if i < n then f i else 0 | none => 0
def headW (ns : List Node) (o : List Int) : Root := rtA ns (leafN ns (oA (sumL ns o)) o.length 0)
def bestI (t : TreeS) (o : List Int) (r : Root) : Int := ofF t o.length (fun i => bestN t.nodes (oA (sumL t.nodes o)) o.length i + 1) r - 1
def bestR (t : TreeS) (o : List Int) (r : Root) : Root × Bool := if bestI t o r < 0 then (Root.zero, false) else (rtA t.nodes (bestI t o r).toNat, true)
theorem ofF_no {t : TreeS} {n : Nat} {f : Nat → Int} {r : Root} (h : t.place r < 0 ∨ (n : Int) ≤ t.place r) : ofF t n f r = 0 := by
  unfold ofF
  unfold TreeS.place at h
  cases e : idxOf t.nodes r with
  | none => rfl
  | some i => rw [e] at h; dsimp only at h ⊢; rw [if_neg (by omega)]
theorem ofF_yes {t : TreeS} {n : Nat} {f : Nat → Int} {r : Root} (h : ¬ t.place r < 0) (h2 : t.place r < n) : ∃ i : Nat, t.place r = i ∧ i < n ∧ ofF t n f r = f i := by
  unfold ofF
  unfold TreeS.place at h h2 ⊢
  cases e : idxOf t.nodes r with
  | none => rw [e] at h; exact absurd (by decide) h
  | some i => rw [e] at h2; dsimp only at h2 ⊢; exact ⟨i, rfl, by omega, by rw [if_pos (by omega)]⟩
theorem bestI_rg {t : TreeS} (hw : t.WF) {o : List Int} (ho : o.length ≤ t.nodes.length) (r : Root) : -1 ≤ bestI t o r ∧ bestI t o r < o.length := by
  unfold bestI ofF
  cases e : idxOf t.nodes r with
  | none => dsimp only; omega
  | some i =>
    dsimp only
    split
    · rcases bestN_rg hw.nd hw.pa (oA (sumL t.nodes o)) ho i with h | ⟨k, h, h1, h2, _⟩ <;> omega
    · omega
theorem bestL_at {ns : List Node} {T : List Int} {i : Nat} (h : i < T.length) : oA (bestL ns T) i = bestN ns (oA T) T.length i := oA_map h
theorem leafL_at {ns : List Node} {T : List Int} {i : Nat} (h : i < T.length) : oA (leafL ns T) i = ((leafN ns (oA T) T.length i : Nat) : Int) := oA_map h
theorem bestL_len (ns : List Node) (T : List Int) : (bestL ns T).length = T.length := by simp [bestL]
theorem leafL_len (ns : List Node) (T : List Int) : (leafL ns T).length = T.length := by simp [leafL]
theorem sumL_grow (ns : List Node) (o : List Int) (n : Nat) : sumL ns o ++ List.replicate (n - o.length) 0 = sumL ns (growO n o) := (sumL_zeros _).symm
theorem applyO_run {ns : List Node} {o : List Int} {l : List Delta} (h : nextO ns (growO ns.length o) l = 0) : applyO ns o l = (0, (runO ns (growO ns.length o) l).2) := by rw [applyO_eq, if_pos h]
theorem applyO_err {ns : List Node} {o : List Int} {l : List Delta} (h : nextO ns (growO ns.length o) l ≠ 0) : applyO ns o l = (nextO ns (growO ns.length o) l, growO ns.length o) := by rw [applyO_eq, if_neg h]
end Go.SL
namespace Go.SL
theorem bestR_no {t : TreeS} {o : List Int} {r : Root} (h : bestI t o r < 0) : bestR t o r = (Root.zero, false) := if_pos h
theorem bestR_yes {t : TreeS} {o : List Int} {r : Root} {k : Nat} (h : bestI t o r = (k : Int)) : bestR t o r = (rtA t.nodes k, true) := by unfold bestR; rw [if_neg (by omega), h, Int.toNat_natCast]
end Go.SL
namespace Go.SL
/-- the place of a block that is known -/
def rplW (t : TreeS) (n : Nat) (r : Root) : Int := if (n : Int) ≤ t.place r then -1 else t.place r
theorem ofF_rpl {t : TreeS} {n : Nat} {f : Nat → Int} {r : Root} : (rplW t n r < 0 ∧ ofF t n f r = 0) ∨ ∃ i : Nat, rplW t n r = i ∧ i < n ∧ ofF t n f r = f i := by
  unfold rplW
  by_cases h : (n : Int) ≤ t.place r
  · rw [if_pos h]; exact .inl ⟨by decide, ofF_no (.inr h)⟩
  · rw [if_neg h]
    by_cases h2 : t.place r < 0
    · exact .inl ⟨h2, ofF_no (.inl h2)⟩
    · exact .inr (ofF_yes h2 (by omega))
def castL (l : List Nat) : List Int := l.map fun k : Nat => (k : Int)
section
variable {P : Program} {w0 : World} {n : Nat} {f : Fr} {o : Oper} {l l2 : List HProp} {v : Value}
/-- what is left as it was may stand where it stood -/
theorem os_back (h : OS P w0 n o f l (fun u l' => u = v ∧ l' = l2)) (h2 : ∀ w, Sat w0 w l2 → Sat w0 w l) : OS P w0 n o f l (fun u l' => u = v ∧ l' = l) := fun a w r s => by
  refine (h a w r s).mono ?_
  rintro u w' ⟨l', ⟨rfl, rfl⟩, s'⟩
  exact ⟨l, ⟨rfl, rfl⟩, h2 w' s'⟩
end
end Go.SL

set_option linter.unusedVariables false
set_option linter.unusedSimpArgs false
namespace Go.SL
structure WAct where
  kind : Int
  root : Int
  parent : Int
  slot : Int
  n : Int
  more : Int
  deriving DecidableEq
def WAct.zero : WAct := ⟨0, 0, 0, 0, 0, 0⟩
def wActC (v : WAct) : List Value := [.int .i64 v.kind] ++ ([.int .i64 v.root] ++ ([.int .i64 v.parent] ++ ([.int .i64 v.slot] ++ ([.int .i64 v.n] ++ ([.int .i64 v.more])))))
theorem wActC_len (v : WAct) : (wActC v).length = 6 := by simp [wActC, rootC_len]
theorem wActC_one (v : WAct) : ∀ u ∈ wActC v, u.oneCell' = true := fun u hu => by
  simp only [wActC, List.mem_append, List.mem_singleton] at hu
  rcases hu with h | h | h | h | h | h
  · subst h; rfl
  · subst h; rfl
  · subst h; rfl
  · subst h; rfl
  · subst h; rfl
  · subst h; rfl
def encWAct : Enc WAct := ⟨wActC, 6, wActC_len, wActC_one, by omega⟩
end Go.SL

set_option linter.unusedVariables false
set_option linter.unusedSimpArgs false
namespace Go.SL
structure PBlk where
  root : Int
  parent : Int
  slot : Int
  n : Int
  deriving DecidableEq
def PBlk.zero : PBlk := ⟨0, 0, 0, 0⟩
def pBlkC (v : PBlk) : List Value := [.int .i64 v.root] ++ ([.int .i64 v.parent] ++ ([.int .i64 v.slot] ++ ([.int .i64 v.n])))
theorem pBlkC_len (v : PBlk) : (pBlkC v).length = 4 := by simp [pBlkC, rootC_len]
theorem pBlkC_one (v : PBlk) : ∀ u ∈ pBlkC v, u.oneCell' = true := fun u hu => by
  simp only [pBlkC, List.mem_append, List.mem_singleton] at hu
  rcases hu with h | h | h | h
  · subst h; rfl
  · subst h; rfl
  · subst h; rfl
  · subst h; rfl
def encPBlk : Enc PBlk := ⟨pBlkC, 4, pBlkC_len, pBlkC_one, by omega⟩
structure VAct where
  kind : Int
  root : Int
  parent : Int
  slot : Int
  who : Int
  deriving DecidableEq
def VAct.zero : VAct := ⟨0, 0, 0, 0, 0⟩
def vActC (v : VAct) : List Value := [.int .i64 v.kind] ++ ([.int .i64 v.root] ++ ([.int .i64 v.parent] ++ ([.int .i64 v.slot] ++ ([.int .i64 v.who]))))
theorem vActC_len (v : VAct) : (vActC v).length = 5 := by simp [vActC, rootC_len]
theorem vActC_take' (v : VAct) : (vActC v).take 5 = vActC v := List.take_of_length_le (by rw [vActC_len]; exact Nat.le_refl _)
theorem vActC_ta (v : VAct) : ((vActC v).drop 0).take 5 = vActC v := vActC_take' v
theorem vActC_one (v : VAct) : ∀ u ∈ vActC v, u.oneCell' = true := fun u hu => by
  simp only [vActC, List.mem_append, List.mem_singleton] at hu
  rcases hu with h | h | h | h | h
  · subst h; rfl
  · subst h; rfl
  · subst h; rfl
  · subst h; rfl
  · subst h; rfl
def encVAct : Enc VAct := ⟨vActC, 5, vActC_len, vActC_one, by omega⟩
theorem vActC_d0 (v : VAct) : (vActC v).drop 0 = [.int .i64 v.kind] ++ ([.int .i64 v.root] ++ ([.int .i64 v.parent] ++ ([.int .i64 v.slot] ++ ([.int .i64 v.who])))) := rfl
theorem vActC_l0 (v : VAct) : (vActC v)[0]? = some (.int .i64 v.kind) := by
  have h := vActC_d0 v
  have h2 : ((vActC v).drop 0)[0]? = some (.int .i64 v.kind) := by rw [h]; rfl
  rwa [List.getElem?_drop] at h2
theorem vActC_a0 (v : VAct) : (vActC v).toArray[0]? = some (.int .i64 v.kind) := by
  rw [List.getElem?_toArray]; exact vActC_l0 v
theorem vActC_d1 (v : VAct) : (vActC v).drop 1 = [.int .i64 v.root] ++ ([.int .i64 v.parent] ++ ([.int .i64 v.slot] ++ ([.int .i64 v.who]))) := rfl
theorem vActC_l1 (v : VAct) : (vActC v)[1]? = some (.int .i64 v.root) := by
  have h := vActC_d1 v
  have h2 : ((vActC v).drop 1)[0]? = some (.int .i64 v.root) := by rw [h]; rfl
  rwa [List.getElem?_drop] at h2
theorem vActC_a1 (v : VAct) : (vActC v).toArray[1]? = some (.int .i64 v.root) := by
  rw [List.getElem?_toArray]; exact vActC_l1 v
theorem vActC_d2 (v : VAct) : (vActC v).drop 2 = [.int .i64 v.parent] ++ ([.int .i64 v.slot] ++ ([.int .i64 v.who])) := rfl
theorem vActC_l2 (v : VAct) : (vActC v)[2]? = some (.int .i64 v.parent) := by
  have h := vActC_d2 v
  have h2 : ((vActC v).drop 2)[0]? = some (.int .i64 v.parent) := by rw [h]; rfl
  rwa [List.getElem?_drop] at h2
theorem vActC_a2 (v : VAct) : (vActC v).toArray[2]? = some (.int .i64 v.parent) := by
  rw [List.getElem?_toArray]; exact vActC_l2 v
theorem vActC_d3 (v : VAct) : (vActC v).drop 3 = [.int .i64 v.slot] ++ ([.int .i64 v.who]) := rfl
theorem vActC_l3 (v : VAct) : (vActC v)[3]? = some (.int .i64 v.slot) := by
  have h := vActC_d3 v
  have h2 : ((vActC v).drop 3)[0]? = some (.int .i64 v.slot) := by rw [h]; rfl
  rwa [List.getElem?_drop] at h2
theorem vActC_a3 (v : VAct) : (vActC v).toArray[3]? = some (.int .i64 v.slot) := by
  rw [List.getElem?_toArray]; exact vActC_l3 v
theorem vActC_d4 (v : VAct) : (vActC v).drop 4 = [.int .i64 v.who] := rfl
theorem vActC_l4 (v : VAct) : (vActC v)[4]? = some (.int .i64 v.who) := by
  have h := vActC_d4 v
  have h2 : ((vActC v).drop 4)[0]? = some (.int .i64 v.who) := by rw [h]; rfl
  rwa [List.getElem?_drop] at h2
theorem vActC_a4 (v : VAct) : (vActC v).toArray[4]? = some (.int .i64 v.who) := by
  rw [List.getElem?_toArray]; exact vActC_l4 v
end Go.SL

set_option linter.unusedVariables false
namespace Go.SL
theorem Sat.push {w0 w : World} {A : HProp} {l : List HProp} (i : Nat) (s : Sat w0 w (A :: l)) : Sat w0 w (l.take i ++ A :: l.drop i) := s.perm (by
  have h : (A :: (l.take i ++ l.drop i)).Perm (l.take i ++ A :: l.drop i) := List.perm_middle.symm
  rwa [List.take_append_drop] at h)
theorem bn : (∀ (p : Prop) [Decidable p], (decide p = true) = p) ∧ (∀ (p : Prop) [Decidable p], (decide p = false) = ¬p) ∧ (∀ b : Bool, ((!b) = true) = (b = false)) ∧ (∀ b : Bool, ((!b) = false) = (b = true)) ∧ (∀ (p : Prop) [Decidable p], (¬¬p) = p) :=
  ⟨fun p _ => decide_eq_true_eq, fun p _ => propext decide_eq_false_iff_not, fun b => by cases b <;> simp, fun b => by cases b <;> simp, fun p _ => by simp⟩
section
variable {P : Program} {w0 : World} {n : Nat} {Q : Exit → Act → World → Prop} {f : Fr} {l : List HProp} {ops : Array Oper} {rest : List Oper} {d : Nat} {op : Op} {ty : TypeId} {pos : String} {aft : Array Edge} {v : Value}
theorem oq (h : OP P w0 n ⟨some d, op, ty, pos, aft, none⟩ f l v) (k : OL P w0 n ops Q rest (upd f d v) l) (hd : Nat.ble (d + 1) n = true := by rfl) : OL P w0 n ops Q (⟨some d, op, ty, pos, aft, none⟩ :: rest) f l := ol_q (wn_none rfl) h hd k
theorem oi {R : Value → List HProp → Prop} (h : OS P w0 n ⟨some d, op, ty, pos, aft, none⟩ f l R) (k : ∀ v l', R v l' → OL P w0 n ops Q rest (upd f d v) l') (hd : Nat.ble (d + 1) n = true := by rfl) : OL P w0 n ops Q (⟨some d, op, ty, pos, aft, none⟩ :: rest) f l := ol_i (wn_none rfl) h hd k
theorem oN {R : Value → List HProp → Prop} (h : OS P w0 n ⟨none, op, ty, pos, aft, none⟩ f l R) (k : ∀ v l', R v l' → OL P w0 n ops Q rest f l') : OL P w0 n ops Q (⟨none, op, ty, pos, aft, none⟩ :: rest) f l := ol_iN (wn_none rfl) h k
theorem e_q {imps : List Nat} {listed : Array Bool} {k : Nat} {M : List HProp} (i : Nat) {g : Option (Nat × Bool)} (ho : ops[i]? = some ⟨some d, op, ty, pos, aft, g⟩) (hw : Wn n ops ⟨some d, op, ty, pos, aft, g⟩ f true) (h : OP P w0 n ⟨some d, op, ty, pos, aft, g⟩ f l v)
    (t : ET P w0 n ops imps ops.size (LN0 P w0 ops Q l) l k (listed.setIfInBounds i true) (upd f d v) M) (hs : Region.noSelect ops = true := by kernel_rfl) (hB : ((Region.ready .any ops listed).contains i && Region.free .any ops listed i && !imps.contains i) = true := by kernel_rfl) (hd : Nat.ble (d + 1) n = true := by rfl) :
    ET P w0 n ops imps ops.size (LN0 P w0 ops Q l) l (k + 1) listed f M := et_quiet i hs ho hB hw h hd t
end
section
variable {P : Program} {w0 : World} {n : Nat} {Q : Exit → Act → World → Prop} {f : Fr} {l : List HProp} {ops : Array Oper} {rest : List Oper} {c : Code} {e : Exit} {o : Oper} {R : Value → List HProp → Prop}
theorem px_pull15 {H0 H1 H2 H3 H4 H5 H6 H7 H8 H9 H10 H11 H12 H13 H14 H15 : HProp} (h : PX w0 n e Q f (H15 :: H0 :: H1 :: H2 :: H3 :: H4 :: H5 :: H6 :: H7 :: H8 :: H9 :: H10 :: H11 :: H12 :: H13 :: H14 :: l)) : PX w0 n e Q f (H0 :: H1 :: H2 :: H3 :: H4 :: H5 :: H6 :: H7 :: H8 :: H9 :: H10 :: H11 :: H12 :: H13 :: H14 :: H15 :: l) := px_pull 15 h
theorem ol_pull16 {H0 H1 H2 H3 H4 H5 H6 H7 H8 H9 H10 H11 H12 H13 H14 H15 H16 : HProp} (h : OL P w0 n ops Q rest f (H16 :: H0 :: H1 :: H2 :: H3 :: H4 :: H5 :: H6 :: H7 :: H8 :: H9 :: H10 :: H11 :: H12 :: H13 :: H14 :: H15 :: l)) : OL P w0 n ops Q rest f (H0 :: H1 :: H2 :: H3 :: H4 :: H5 :: H6 :: H7 :: H8 :: H9 :: H10 :: H11 :: H12 :: H13 :: H14 :: H15 :: H16 :: l) := ol_pull 16 h
theorem px_pull17 {H0 H1 H2 H3 H4 H5 H6 H7 H8 H9 H10 H11 H12 H13 H14 H15 H16 H17 : HProp} (h : PX w0 n e Q f (H17 :: H0 :: H1 :: H2 :: H3 :: H4 :: H5 :: H6 :: H7 :: H8 :: H9 :: H10 :: H11 :: H12 :: H13 :: H14 :: H15 :: H16 :: l)) : PX w0 n e Q f (H0 :: H1 :: H2 :: H3 :: H4 :: H5 :: H6 :: H7 :: H8 :: H9 :: H10 :: H11 :: H12 :: H13 :: H14 :: H15 :: H16 :: H17 :: l) := px_pull 17 h
end
end Go.SL

namespace Go.SL
open Go.Proofs
theorem a1_164 : arr1B Try.prog 164 = some 8 := by kernel_rfl
theorem a1_168 : arr1B Try.prog 168 = some 64 := by kernel_rfl
theorem a1_24 : arr1B Try.prog 24 = some 32 := by kernel_rfl
theorem ag_102 : aggB Try.prog 102 = some 33 := by kernel_rfl
theorem ag_155 : aggB Try.prog 155 = some 34 := by kernel_rfl
theorem ag_157 : aggB Try.prog 157 = some 2 := by kernel_rfl
theorem ag_164 : aggB Try.prog 164 = some 8 := by kernel_rfl
theorem ag_168 : aggB Try.prog 168 = some 64 := by kernel_rfl
theorem ag_24 : aggB Try.prog 24 = some 32 := by kernel_rfl
theorem ag_51 : aggB Try.prog 51 = some 34 := by kernel_rfl
theorem ag_65 : aggB Try.prog 65 = some 12 := by kernel_rfl
theorem ag_72 : aggB Try.prog 72 = some 5 := by kernel_rfl
theorem ag_78 : aggB Try.prog 78 = some 2 := by kernel_rfl
theorem ag_84 : aggB Try.prog 84 = some 34 := by kernel_rfl
theorem arp_164 : arrpB Try.prog 164 = some 8 := by kernel_rfl
theorem bB_102 : buildB Try.prog 102 = some (deltaC Delta.zero, [(0, 32), (32, 1)]) := by kernel_rfl
theorem bB_114 : buildB Try.prog 114 = some ([.slice none 0 0, .map none, .int .i64 0], [(0, 1), (1, 1), (2, 1)]) := by kernel_rfl
theorem bB_116 : buildB Try.prog 116 = some ([.pointer none, .slice none 0 0, .slice none 0 0, .slice none 0 0, .slice none 0 0], [(0, 1), (1, 1), (2, 1), (3, 1), (4, 1)]) := by kernel_rfl
theorem bB_127 : buildB Try.prog 127 = some ([.slice none 0 0, .int .i64 0, .int .i64 0, .int .i64 0, .int .i64 0, .int .i64 0, .int .i64 0, .int .i64 0, .int .i64 0, .int .i64 0, .int .i64 0, .int .i64 0, .pointer none, .pointer none], [(0, 12), (12, 1), (13, 1)]) := by kernel_rfl
theorem bB_131 : buildB Try.prog 131 = some ([.slice none 0 0, .int .i64 0, .int .i64 0, .int .i64 0, .int .i64 0, .int .i64 0, .int .i64 0, .int .i64 0, .int .i64 0, .int .i64 0, .int .i64 0, .int .i64 0, .pointer none, .pointer none, .pointer none], [(0, 12), (12, 1), (13, 1), (14, 1)]) := by kernel_rfl
theorem bB_136 : buildB Try.prog 136 = some ([.int .i64 0, .slice none 0 0, .slice none 0 0, .map none], [(0, 1), (1, 1), (2, 1), (3, 1)]) := by kernel_rfl
theorem bB_153 : buildB Try.prog 153 = some ([.int .i64 0, .int .i64 0, .slice none 0 0, .slice none 0 0, .slice none 0 0, .slice none 0 0], [(0, 1), (1, 1), (2, 1), (3, 1), (4, 1), (5, 1)]) := by kernel_rfl
theorem bB_155 : buildB Try.prog 155 = some (firstC First.zero, [(0, 1), (1, 1), (2, 32)]) := by kernel_rfl
theorem bB_157 : buildB Try.prog 157 = some ([.int .i64 0, .int .i64 0], [(0, 1), (1, 1)]) := by kernel_rfl
theorem bB_179 : buildB Try.prog 179 = some (stC St.zero, [(0, 8), (8, 1), (9, 1)]) := by kernel_rfl
theorem bB_44 : buildB Try.prog 44 = some ([.slice none 0 0, .slice none 0 0, .slice none 0 0, .int .i64 0], [(0, 1), (1, 1), (2, 1), (3, 1)]) := by kernel_rfl
theorem bB_47 : buildB Try.prog 47 = some ([.pointer none, .slice none 0 0, .int .i64 0], [(0, 1), (1, 1), (2, 1)]) := by kernel_rfl
theorem bB_51 : buildB Try.prog 51 = some (nodeC Node.zero, [(0, 32), (32, 1), (33, 1)]) := by kernel_rfl
theorem bB_65 : buildB Try.prog 65 = some (cfgC Cfg.zero, [(0, 1), (1, 1), (2, 1), (3, 1), (4, 1), (5, 1), (6, 1), (7, 1), (8, 1), (9, 1), (10, 1), (11, 1)]) := by kernel_rfl
theorem bB_78 : buildB Try.prog 78 = some (valC Val.zero, [(0, 1), (1, 1)]) := by kernel_rfl
theorem bB_84 : buildB Try.prog 84 = some (voteC Vote.zero, [(0, 1), (1, 1), (2, 32)]) := by kernel_rfl
theorem ba_164 : buildaB Try.prog 164 = some [.int .u32 0, .int .u32 0, .int .u32 0, .int .u32 0, .int .u32 0, .int .u32 0, .int .u32 0, .int .u32 0] := by kernel_rfl
theorem ba_168 : buildaB Try.prog 168 = some [.int .u32 0, .int .u32 0, .int .u32 0, .int .u32 0, .int .u32 0, .int .u32 0, .int .u32 0, .int .u32 0, .int .u32 0, .int .u32 0, .int .u32 0, .int .u32 0, .int .u32 0, .int .u32 0, .int .u32 0, .int .u32 0, .int .u32 0, .int .u32 0, .int .u32 0, .int .u32 0, .int .u32 0, .int .u32 0, .int .u32 0, .int .u32 0, .int .u32 0, .int .u32 0, .int .u32 0, .int .u32 0, .int .u32 0, .int .u32 0, .int .u32 0, .int .u32 0, .int .u32 0, .int .u32 0, .int .u32 0, .int .u32 0, .int .u32 0, .int .u32 0, .int .u32 0, .int .u32 0, .int .u32 0, .int .u32 0, .int .u32 0, .int .u32 0, .int .u32 0, .int .u32 0, .int .u32 0, .int .u32 0, .int .u32 0, .int .u32 0, .int .u32 0, .int .u32 0, .int .u32 0, .int .u32 0, .int .u32 0, .int .u32 0, .int .u32 0, .int .u32 0, .int .u32 0, .int .u32 0, .int .u32 0, .int .u32 0, .int .u32 0, .int .u32 0] := by kernel_rfl
theorem cb_100 : callB Try.prog 100 = true := by kernel_rfl
theorem cb_101 : callB Try.prog 101 = true := by kernel_rfl
theorem cb_102 : callB Try.prog 102 = true := by kernel_rfl
theorem cb_103 : callB Try.prog 103 = true := by kernel_rfl
theorem cb_104 : callB Try.prog 104 = true := by kernel_rfl
theorem cb_105 : callB Try.prog 105 = true := by kernel_rfl
theorem cb_106 : callB Try.prog 106 = true := by kernel_rfl
theorem cb_107 : callB Try.prog 107 = true := by kernel_rfl
theorem cb_108 : callB Try.prog 108 = true := by kernel_rfl
theorem cb_109 : callB Try.prog 109 = true := by kernel_rfl
theorem cb_110 : callB Try.prog 110 = true := by kernel_rfl
theorem cb_111 : callB Try.prog 111 = true := by kernel_rfl
theorem cb_112 : callB Try.prog 112 = true := by kernel_rfl
theorem cb_113 : callB Try.prog 113 = true := by kernel_rfl
theorem cb_114 : callB Try.prog 114 = true := by kernel_rfl
theorem cb_115 : callB Try.prog 115 = true := by kernel_rfl
theorem cb_116 : callB Try.prog 116 = true := by kernel_rfl
theorem cb_118 : callB Try.prog 118 = true := by kernel_rfl
theorem cb_119 : callB Try.prog 119 = true := by kernel_rfl
theorem cb_120 : callB Try.prog 120 = true := by kernel_rfl
theorem cb_121 : callB Try.prog 121 = true := by kernel_rfl
theorem cb_15 : callB Try.prog 15 = true := by kernel_rfl
theorem cb_16 : callB Try.prog 16 = true := by kernel_rfl
theorem cb_17 : callB Try.prog 17 = true := by kernel_rfl
theorem cb_18 : callB Try.prog 18 = true := by kernel_rfl
theorem cb_20 : callB Try.prog 20 = true := by kernel_rfl
theorem cb_21 : callB Try.prog 21 = true := by kernel_rfl
theorem cb_22 : callB Try.prog 22 = true := by kernel_rfl
theorem cb_24 : callB Try.prog 24 = true := by kernel_rfl
theorem cb_25 : callB Try.prog 25 = true := by kernel_rfl
theorem cb_26 : callB Try.prog 26 = true := by kernel_rfl
theorem cb_27 : callB Try.prog 27 = true := by kernel_rfl
theorem cb_28 : callB Try.prog 28 = true := by kernel_rfl
theorem cb_29 : callB Try.prog 29 = true := by kernel_rfl
theorem cb_31 : callB Try.prog 31 = true := by kernel_rfl
theorem cb_33 : callB Try.prog 33 = true := by kernel_rfl
theorem cb_34 : callB Try.prog 34 = true := by kernel_rfl
theorem cb_35 : callB Try.prog 35 = true := by kernel_rfl
theorem cb_36 : callB Try.prog 36 = true := by kernel_rfl
theorem cb_37 : callB Try.prog 37 = true := by kernel_rfl
theorem cb_38 : callB Try.prog 38 = true := by kernel_rfl
theorem cb_39 : callB Try.prog 39 = true := by kernel_rfl
theorem cb_40 : callB Try.prog 40 = true := by kernel_rfl
theorem cb_41 : callB Try.prog 41 = true := by kernel_rfl
theorem cb_42 : callB Try.prog 42 = true := by kernel_rfl
theorem cb_43 : callB Try.prog 43 = true := by kernel_rfl
theorem cb_44 : callB Try.prog 44 = true := by kernel_rfl
theorem cb_45 : callB Try.prog 45 = true := by kernel_rfl
theorem cb_46 : callB Try.prog 46 = true := by kernel_rfl
theorem cb_47 : callB Try.prog 47 = true := by kernel_rfl
theorem cb_48 : callB Try.prog 48 = true := by kernel_rfl
theorem cb_49 : callB Try.prog 49 = true := by kernel_rfl
theorem cb_50 : callB Try.prog 50 = true := by kernel_rfl
theorem cb_51 : callB Try.prog 51 = true := by kernel_rfl
theorem cb_52 : callB Try.prog 52 = true := by kernel_rfl
theorem cb_54 : callB Try.prog 54 = true := by kernel_rfl
theorem cb_55 : callB Try.prog 55 = true := by kernel_rfl
theorem cb_57 : callB Try.prog 57 = true := by kernel_rfl
theorem cb_58 : callB Try.prog 58 = true := by kernel_rfl
theorem cb_59 : callB Try.prog 59 = true := by kernel_rfl
theorem cb_60 : callB Try.prog 60 = true := by kernel_rfl
theorem cb_61 : callB Try.prog 61 = true := by kernel_rfl
theorem cb_62 : callB Try.prog 62 = true := by kernel_rfl
theorem cb_63 : callB Try.prog 63 = true := by kernel_rfl
theorem cb_64 : callB Try.prog 64 = true := by kernel_rfl
theorem cb_65 : callB Try.prog 65 = true := by kernel_rfl
theorem cb_66 : callB Try.prog 66 = true := by kernel_rfl
theorem cb_67 : callB Try.prog 67 = true := by kernel_rfl
theorem cb_68 : callB Try.prog 68 = true := by kernel_rfl
theorem cb_69 : callB Try.prog 69 = true := by kernel_rfl
theorem cb_70 : callB Try.prog 70 = true := by kernel_rfl
theorem cb_71 : callB Try.prog 71 = true := by kernel_rfl
theorem cb_72 : callB Try.prog 72 = true := by kernel_rfl
theorem cb_73 : callB Try.prog 73 = true := by kernel_rfl
theorem cb_74 : callB Try.prog 74 = true := by kernel_rfl
theorem cb_75 : callB Try.prog 75 = true := by kernel_rfl
theorem cb_76 : callB Try.prog 76 = true := by kernel_rfl
theorem cb_77 : callB Try.prog 77 = true := by kernel_rfl
theorem cb_78 : callB Try.prog 78 = true := by kernel_rfl
theorem cb_79 : callB Try.prog 79 = true := by kernel_rfl
theorem cb_83 : callB Try.prog 83 = true := by kernel_rfl
theorem cb_84 : callB Try.prog 84 = true := by kernel_rfl
theorem cb_85 : callB Try.prog 85 = true := by kernel_rfl
theorem cb_86 : callB Try.prog 86 = true := by kernel_rfl
theorem cb_87 : callB Try.prog 87 = true := by kernel_rfl
theorem cb_88 : callB Try.prog 88 = true := by kernel_rfl
theorem cb_89 : callB Try.prog 89 = true := by kernel_rfl
theorem cb_90 : callB Try.prog 90 = true := by kernel_rfl
theorem cb_91 : callB Try.prog 91 = true := by kernel_rfl
theorem cb_92 : callB Try.prog 92 = true := by kernel_rfl
theorem cb_93 : callB Try.prog 93 = true := by kernel_rfl
theorem cb_94 : callB Try.prog 94 = true := by kernel_rfl
theorem cb_95 : callB Try.prog 95 = true := by kernel_rfl
theorem cb_96 : callB Try.prog 96 = true := by kernel_rfl
theorem cb_97 : callB Try.prog 97 = true := by kernel_rfl
theorem cb_98 : callB Try.prog 98 = true := by kernel_rfl
theorem cb_99 : callB Try.prog 99 = true := by kernel_rfl
theorem fld_102_0 : fieldB Try.prog 102 0 = some 0 := by kernel_rfl
theorem fld_102_1 : fieldB Try.prog 102 1 = some 32 := by kernel_rfl
theorem fld_114_0 : fieldB Try.prog 114 0 = some 0 := by kernel_rfl
theorem fld_114_1 : fieldB Try.prog 114 1 = some 1 := by kernel_rfl
theorem fld_114_2 : fieldB Try.prog 114 2 = some 2 := by kernel_rfl
theorem fld_116_0 : fieldB Try.prog 116 0 = some 0 := by kernel_rfl
theorem fld_116_1 : fieldB Try.prog 116 1 = some 1 := by kernel_rfl
theorem fld_116_2 : fieldB Try.prog 116 2 = some 2 := by kernel_rfl
theorem fld_116_3 : fieldB Try.prog 116 3 = some 3 := by kernel_rfl
theorem fld_116_4 : fieldB Try.prog 116 4 = some 4 := by kernel_rfl
theorem fld_127_0 : fieldB Try.prog 127 0 = some 0 := by kernel_rfl
theorem fld_127_1 : fieldB Try.prog 127 1 = some 12 := by kernel_rfl
theorem fld_127_2 : fieldB Try.prog 127 2 = some 13 := by kernel_rfl
theorem fld_131_0 : fieldB Try.prog 131 0 = some 0 := by kernel_rfl
theorem fld_131_1 : fieldB Try.prog 131 1 = some 12 := by kernel_rfl
theorem fld_131_2 : fieldB Try.prog 131 2 = some 13 := by kernel_rfl
theorem fld_131_3 : fieldB Try.prog 131 3 = some 14 := by kernel_rfl
theorem fld_136_0 : fieldB Try.prog 136 0 = some 0 := by kernel_rfl
theorem fld_136_1 : fieldB Try.prog 136 1 = some 1 := by kernel_rfl
theorem fld_136_2 : fieldB Try.prog 136 2 = some 2 := by kernel_rfl
theorem fld_136_3 : fieldB Try.prog 136 3 = some 3 := by kernel_rfl
theorem fld_153_0 : fieldB Try.prog 153 0 = some 0 := by kernel_rfl
theorem fld_153_1 : fieldB Try.prog 153 1 = some 1 := by kernel_rfl
theorem fld_153_2 : fieldB Try.prog 153 2 = some 2 := by kernel_rfl
theorem fld_153_3 : fieldB Try.prog 153 3 = some 3 := by kernel_rfl
theorem fld_153_4 : fieldB Try.prog 153 4 = some 4 := by kernel_rfl
theorem fld_153_5 : fieldB Try.prog 153 5 = some 5 := by kernel_rfl
theorem fld_155_0 : fieldB Try.prog 155 0 = some 0 := by kernel_rfl
theorem fld_155_1 : fieldB Try.prog 155 1 = some 1 := by kernel_rfl
theorem fld_155_2 : fieldB Try.prog 155 2 = some 2 := by kernel_rfl
theorem fld_157_1 : fieldB Try.prog 157 1 = some 1 := by kernel_rfl
theorem fld_179_0 : fieldB Try.prog 179 0 = some 0 := by kernel_rfl
theorem fld_179_1 : fieldB Try.prog 179 1 = some 8 := by kernel_rfl
theorem fld_179_2 : fieldB Try.prog 179 2 = some 9 := by kernel_rfl
theorem fld_44_0 : fieldB Try.prog 44 0 = some 0 := by kernel_rfl
theorem fld_44_1 : fieldB Try.prog 44 1 = some 1 := by kernel_rfl
theorem fld_44_2 : fieldB Try.prog 44 2 = some 2 := by kernel_rfl
theorem fld_44_3 : fieldB Try.prog 44 3 = some 3 := by kernel_rfl
theorem fld_47_0 : fieldB Try.prog 47 0 = some 0 := by kernel_rfl
theorem fld_47_1 : fieldB Try.prog 47 1 = some 1 := by kernel_rfl
theorem fld_47_2 : fieldB Try.prog 47 2 = some 2 := by kernel_rfl
theorem fld_51_0 : fieldB Try.prog 51 0 = some 0 := by kernel_rfl
theorem fld_51_1 : fieldB Try.prog 51 1 = some 32 := by kernel_rfl
theorem fld_51_2 : fieldB Try.prog 51 2 = some 33 := by kernel_rfl
theorem fld_65_0 : fieldB Try.prog 65 0 = some 0 := by kernel_rfl
theorem fld_65_1 : fieldB Try.prog 65 1 = some 1 := by kernel_rfl
theorem fld_65_10 : fieldB Try.prog 65 10 = some 10 := by kernel_rfl
theorem fld_65_11 : fieldB Try.prog 65 11 = some 11 := by kernel_rfl
theorem fld_65_2 : fieldB Try.prog 65 2 = some 2 := by kernel_rfl
theorem fld_65_3 : fieldB Try.prog 65 3 = some 3 := by kernel_rfl
theorem fld_65_4 : fieldB Try.prog 65 4 = some 4 := by kernel_rfl
theorem fld_65_5 : fieldB Try.prog 65 5 = some 5 := by kernel_rfl
theorem fld_65_6 : fieldB Try.prog 65 6 = some 6 := by kernel_rfl
theorem fld_65_7 : fieldB Try.prog 65 7 = some 7 := by kernel_rfl
theorem fld_65_8 : fieldB Try.prog 65 8 = some 8 := by kernel_rfl
theorem fld_65_9 : fieldB Try.prog 65 9 = some 9 := by kernel_rfl
theorem fld_72_0 : fieldB Try.prog 72 0 = some 0 := by kernel_rfl
theorem fld_72_1 : fieldB Try.prog 72 1 = some 1 := by kernel_rfl
theorem fld_72_2 : fieldB Try.prog 72 2 = some 2 := by kernel_rfl
theorem fld_72_3 : fieldB Try.prog 72 3 = some 3 := by kernel_rfl
theorem fld_72_4 : fieldB Try.prog 72 4 = some 4 := by kernel_rfl
theorem fld_78_0 : fieldB Try.prog 78 0 = some 0 := by kernel_rfl
theorem fld_78_1 : fieldB Try.prog 78 1 = some 1 := by kernel_rfl
theorem fld_84_0 : fieldB Try.prog 84 0 = some 0 := by kernel_rfl
theorem fld_84_1 : fieldB Try.prog 84 1 = some 1 := by kernel_rfl
theorem fld_84_2 : fieldB Try.prog 84 2 = some 2 := by kernel_rfl
theorem mk2_157 : mark2B Try.prog 157 = true := by kernel_rfl
theorem mx : Try.prog.follows .mixedOrders = true := by kernel_rfl
theorem rB_24 : rootB Try.prog 24 = true := by kernel_rfl
theorem rk_24 : rootKeyB Try.prog 24 = true := by kernel_rfl
theorem s1_190 : slice1B Try.prog 190 = true := by kernel_rfl
theorem sB_111 : sliceB Try.prog 111 = some (51, 34, 48) := by kernel_rfl
theorem sB_132 : sliceB Try.prog 132 = some (137, 1, 8) := by kernel_rfl
theorem sB_133 : sliceB Try.prog 133 = some (4, 1, 1) := by kernel_rfl
theorem sB_150 : sliceB Try.prog 150 = some (155, 34, 48) := by kernel_rfl
theorem sB_151 : sliceB Try.prog 151 = some (84, 34, 48) := by kernel_rfl
theorem sB_162 : sliceB Try.prog 162 = some (5, 1, 1) := by kernel_rfl
theorem sB_165 : sliceB Try.prog 165 = some (142, 1, 8) := by kernel_rfl
theorem sB_175 : sliceB Try.prog 175 = some (9, 1, 16) := by kernel_rfl
theorem sB_37 : sliceB Try.prog 37 = some (24, 32, 32) := by kernel_rfl
theorem sB_42 : sliceB Try.prog 42 = some (3, 1, 8) := by kernel_rfl
theorem sB_63 : sliceB Try.prog 63 = some (78, 2, 24) := by kernel_rfl
theorem sB_66 : sliceB Try.prog 66 = some (72, 5, 40) := by kernel_rfl
theorem sB_97 : sliceB Try.prog 97 = some (102, 33, 40) := by kernel_rfl
theorem sc_111 : scalarB Try.prog 111 = true := by kernel_rfl
theorem sc_112 : scalarB Try.prog 112 = true := by kernel_rfl
theorem sc_125 : scalarB Try.prog 125 = true := by kernel_rfl
theorem sc_132 : scalarB Try.prog 132 = true := by kernel_rfl
theorem sc_133 : scalarB Try.prog 133 = true := by kernel_rfl
theorem sc_134 : scalarB Try.prog 134 = true := by kernel_rfl
theorem sc_137 : scalarB Try.prog 137 = true := by kernel_rfl
theorem sc_142 : scalarB Try.prog 142 = true := by kernel_rfl
theorem sc_150 : scalarB Try.prog 150 = true := by kernel_rfl
theorem sc_151 : scalarB Try.prog 151 = true := by kernel_rfl
theorem sc_162 : scalarB Try.prog 162 = true := by kernel_rfl
theorem sc_163 : scalarB Try.prog 163 = true := by kernel_rfl
theorem sc_26 : scalarB Try.prog 26 = true := by kernel_rfl
theorem sc_27 : scalarB Try.prog 27 = true := by kernel_rfl
theorem sc_3 : scalarB Try.prog 3 = true := by kernel_rfl
theorem sc_37 : scalarB Try.prog 37 = true := by kernel_rfl
theorem sc_4 : scalarB Try.prog 4 = true := by kernel_rfl
theorem sc_42 : scalarB Try.prog 42 = true := by kernel_rfl
theorem sc_45 : scalarB Try.prog 45 = true := by kernel_rfl
theorem sc_5 : scalarB Try.prog 5 = true := by kernel_rfl
theorem sc_63 : scalarB Try.prog 63 = true := by kernel_rfl
theorem sc_79 : scalarB Try.prog 79 = true := by kernel_rfl
theorem sc_9 : scalarB Try.prog 9 = true := by kernel_rfl
theorem zB_102 : zeroB Try.prog 102 = some (.agg #[.int .u8 0, .int .u8 0, .int .u8 0, .int .u8 0, .int .u8 0, .int .u8 0, .int .u8 0, .int .u8 0, .int .u8 0, .int .u8 0, .int .u8 0, .int .u8 0, .int .u8 0, .int .u8 0, .int .u8 0, .int .u8 0, .int .u8 0, .int .u8 0, .int .u8 0, .int .u8 0, .int .u8 0, .int .u8 0, .int .u8 0, .int .u8 0, .int .u8 0, .int .u8 0, .int .u8 0, .int .u8 0, .int .u8 0, .int .u8 0, .int .u8 0, .int .u8 0, .int .i64 0]) := by kernel_rfl
theorem zB_155 : zeroB Try.prog 155 = some (.agg #[.int .i64 0, .int .i64 0, .int .u8 0, .int .u8 0, .int .u8 0, .int .u8 0, .int .u8 0, .int .u8 0, .int .u8 0, .int .u8 0, .int .u8 0, .int .u8 0, .int .u8 0, .int .u8 0, .int .u8 0, .int .u8 0, .int .u8 0, .int .u8 0, .int .u8 0, .int .u8 0, .int .u8 0, .int .u8 0, .int .u8 0, .int .u8 0, .int .u8 0, .int .u8 0, .int .u8 0, .int .u8 0, .int .u8 0, .int .u8 0, .int .u8 0, .int .u8 0, .int .u8 0, .int .u8 0]) := by kernel_rfl
theorem zB_157 : zeroB Try.prog 157 = some (.agg #[.int .i64 0, .int .i64 0]) := by kernel_rfl
theorem zB_164 : zeroB Try.prog 164 = some (.agg #[.int .u32 0, .int .u32 0, .int .u32 0, .int .u32 0, .int .u32 0, .int .u32 0, .int .u32 0, .int .u32 0]) := by kernel_rfl
theorem zB_168 : zeroB Try.prog 168 = some (.agg #[.int .u32 0, .int .u32 0, .int .u32 0, .int .u32 0, .int .u32 0, .int .u32 0, .int .u32 0, .int .u32 0, .int .u32 0, .int .u32 0, .int .u32 0, .int .u32 0, .int .u32 0, .int .u32 0, .int .u32 0, .int .u32 0, .int .u32 0, .int .u32 0, .int .u32 0, .int .u32 0, .int .u32 0, .int .u32 0, .int .u32 0, .int .u32 0, .int .u32 0, .int .u32 0, .int .u32 0, .int .u32 0, .int .u32 0, .int .u32 0, .int .u32 0, .int .u32 0, .int .u32 0, .int .u32 0, .int .u32 0, .int .u32 0, .int .u32 0, .int .u32 0, .int .u32 0, .int .u32 0, .int .u32 0, .int .u32 0, .int .u32 0, .int .u32 0, .int .u32 0, .int .u32 0, .int .u32 0, .int .u32 0, .int .u32 0, .int .u32 0, .int .u32 0, .int .u32 0, .int .u32 0, .int .u32 0, .int .u32 0, .int .u32 0, .int .u32 0, .int .u32 0, .int .u32 0, .int .u32 0, .int .u32 0, .int .u32 0, .int .u32 0, .int .u32 0]) := by kernel_rfl
theorem zB_24 : zeroB Try.prog 24 = some (.agg #[.int .u8 0, .int .u8 0, .int .u8 0, .int .u8 0, .int .u8 0, .int .u8 0, .int .u8 0, .int .u8 0, .int .u8 0, .int .u8 0, .int .u8 0, .int .u8 0, .int .u8 0, .int .u8 0, .int .u8 0, .int .u8 0, .int .u8 0, .int .u8 0, .int .u8 0, .int .u8 0, .int .u8 0, .int .u8 0, .int .u8 0, .int .u8 0, .int .u8 0, .int .u8 0, .int .u8 0, .int .u8 0, .int .u8 0, .int .u8 0, .int .u8 0, .int .u8 0]) := by kernel_rfl
theorem zB_3 : zeroB Try.prog 3 = some (.int .i64 0) := by kernel_rfl
theorem zB_37 : zeroB Try.prog 37 = some (.slice none 0 0) := by kernel_rfl
theorem zB_51 : zeroB Try.prog 51 = some (.agg #[.int .u8 0, .int .u8 0, .int .u8 0, .int .u8 0, .int .u8 0, .int .u8 0, .int .u8 0, .int .u8 0, .int .u8 0, .int .u8 0, .int .u8 0, .int .u8 0, .int .u8 0, .int .u8 0, .int .u8 0, .int .u8 0, .int .u8 0, .int .u8 0, .int .u8 0, .int .u8 0, .int .u8 0, .int .u8 0, .int .u8 0, .int .u8 0, .int .u8 0, .int .u8 0, .int .u8 0, .int .u8 0, .int .u8 0, .int .u8 0, .int .u8 0, .int .u8 0, .int .i64 0, .int .i64 0]) := by kernel_rfl
theorem zB_65 : zeroB Try.prog 65 = some (.agg #[.slice none 0 0, .int .i64 0, .int .i64 0, .int .i64 0, .int .i64 0, .int .i64 0, .int .i64 0, .int .i64 0, .int .i64 0, .int .i64 0, .int .i64 0, .int .i64 0]) := by kernel_rfl
theorem zB_72 : zeroB Try.prog 72 = some (.agg #[.int .i64 0, .int .i64 0, .int .i64 0, .int .i64 0, .int .i64 0]) := by kernel_rfl
theorem zB_78 : zeroB Try.prog 78 = some (.agg #[.int .i64 0, .string ⟨#[]⟩]) := by kernel_rfl
theorem zB_84 : zeroB Try.prog 84 = some (.agg #[.int .i64 0, .int .i64 0, .int .u8 0, .int .u8 0, .int .u8 0, .int .u8 0, .int .u8 0, .int .u8 0, .int .u8 0, .int .u8 0, .int .u8 0, .int .u8 0, .int .u8 0, .int .u8 0, .int .u8 0, .int .u8 0, .int .u8 0, .int .u8 0, .int .u8 0, .int .u8 0, .int .u8 0, .int .u8 0, .int .u8 0, .int .u8 0, .int .u8 0, .int .u8 0, .int .u8 0, .int .u8 0, .int .u8 0, .int .u8 0, .int .u8 0, .int .u8 0, .int .u8 0, .int .u8 0]) := by kernel_rfl
theorem zBr_24 : zeroB Try.prog 24 = some (.agg (rootC Root.zero).toArray) := by kernel_rfl
theorem zv_102 : (Try.prog.info? 102).bind (·.zero) = some (.agg #[.int .u8 0, .int .u8 0, .int .u8 0, .int .u8 0, .int .u8 0, .int .u8 0, .int .u8 0, .int .u8 0, .int .u8 0, .int .u8 0, .int .u8 0, .int .u8 0, .int .u8 0, .int .u8 0, .int .u8 0, .int .u8 0, .int .u8 0, .int .u8 0, .int .u8 0, .int .u8 0, .int .u8 0, .int .u8 0, .int .u8 0, .int .u8 0, .int .u8 0, .int .u8 0, .int .u8 0, .int .u8 0, .int .u8 0, .int .u8 0, .int .u8 0, .int .u8 0, .int .i64 0]) := by kernel_rfl
theorem zv_137 : (Try.prog.info? 137).bind (·.zero) = some (.pointer none) := by kernel_rfl
theorem zv_142 : (Try.prog.info? 142).bind (·.zero) = some (.int .u64 0) := by kernel_rfl
theorem zv_155 : (Try.prog.info? 155).bind (·.zero) = some (.agg #[.int .i64 0, .int .i64 0, .int .u8 0, .int .u8 0, .int .u8 0, .int .u8 0, .int .u8 0, .int .u8 0, .int .u8 0, .int .u8 0, .int .u8 0, .int .u8 0, .int .u8 0, .int .u8 0, .int .u8 0, .int .u8 0, .int .u8 0, .int .u8 0, .int .u8 0, .int .u8 0, .int .u8 0, .int .u8 0, .int .u8 0, .int .u8 0, .int .u8 0, .int .u8 0, .int .u8 0, .int .u8 0, .int .u8 0, .int .u8 0, .int .u8 0, .int .u8 0, .int .u8 0, .int .u8 0]) := by kernel_rfl
theorem zv_24 : (Try.prog.info? 24).bind (·.zero) = some (.agg #[.int .u8 0, .int .u8 0, .int .u8 0, .int .u8 0, .int .u8 0, .int .u8 0, .int .u8 0, .int .u8 0, .int .u8 0, .int .u8 0, .int .u8 0, .int .u8 0, .int .u8 0, .int .u8 0, .int .u8 0, .int .u8 0, .int .u8 0, .int .u8 0, .int .u8 0, .int .u8 0, .int .u8 0, .int .u8 0, .int .u8 0, .int .u8 0, .int .u8 0, .int .u8 0, .int .u8 0, .int .u8 0, .int .u8 0, .int .u8 0, .int .u8 0, .int .u8 0]) := by kernel_rfl
theorem zv_3 : (Try.prog.info? 3).bind (·.zero) = some (.int .i64 0) := by kernel_rfl
theorem zv_4 : (Try.prog.info? 4).bind (·.zero) = some (.bool false) := by kernel_rfl
theorem zv_5 : (Try.prog.info? 5).bind (·.zero) = some (.int .u8 0) := by kernel_rfl
theorem zv_51 : (Try.prog.info? 51).bind (·.zero) = some (.agg #[.int .u8 0, .int .u8 0, .int .u8 0, .int .u8 0, .int .u8 0, .int .u8 0, .int .u8 0, .int .u8 0, .int .u8 0, .int .u8 0, .int .u8 0, .int .u8 0, .int .u8 0, .int .u8 0, .int .u8 0, .int .u8 0, .int .u8 0, .int .u8 0, .int .u8 0, .int .u8 0, .int .u8 0, .int .u8 0, .int .u8 0, .int .u8 0, .int .u8 0, .int .u8 0, .int .u8 0, .int .u8 0, .int .u8 0, .int .u8 0, .int .u8 0, .int .u8 0, .int .i64 0, .int .i64 0]) := by kernel_rfl
theorem zv_78 : (Try.prog.info? 78).bind (·.zero) = some (.agg #[.int .i64 0, .string ⟨#[]⟩]) := by kernel_rfl
theorem zv_84 : (Try.prog.info? 84).bind (·.zero) = some (.agg #[.int .i64 0, .int .i64 0, .int .u8 0, .int .u8 0, .int .u8 0, .int .u8 0, .int .u8 0, .int .u8 0, .int .u8 0, .int .u8 0, .int .u8 0, .int .u8 0, .int .u8 0, .int .u8 0, .int .u8 0, .int .u8 0, .int .u8 0, .int .u8 0, .int .u8 0, .int .u8 0, .int .u8 0, .int .u8 0, .int .u8 0, .int .u8 0, .int .u8 0, .int .u8 0, .int .u8 0, .int .u8 0, .int .u8 0, .int .u8 0, .int .u8 0, .int .u8 0, .int .u8 0, .int .u8 0]) := by kernel_rfl
theorem zv_9 : (Try.prog.info? 9).bind (·.zero) = some (.string ⟨#[]⟩) := by kernel_rfl
end Go.SL

set_option linter.unusedVariables false
set_option linter.unusedSimpArgs false
namespace Go.SL
open Go.Proofs

set_option maxRecDepth 100000 in
theorem Name_calls {w0 w : World} {l : List HProp} (n : Int) (hs : Sat w0 w (l))  :
  Calls Try.prog 17 #[.int .i64 n] w (Ret w0 fun v l' => v = .agg (rootC (nameR n)).toArray ∧ l' = l) := by
 refine calls_enter Try.func17 rfl rfl rfl hs ?_
 refine Z0 ?_
 refine Z1w ?_; intro bx1
 refine Z19 ?_
 refine Z1w ?_; intro bx2
 refine Z1 ?_
 refine Z18 ?_
 refine oq (op_conv8i Try.underlying5 (by rw [Try.underlying3]; rfl) rfl) ?_
 refine oq (op_aidx 0 a1_24 rfl rfl rfl (by decide)) ?_
 refine oN (os_storer _ sc_5 rfl rfl (by decide) (Free.zero _)) ?_; rintro _ _ ⟨rfl, rfl⟩
 refine Z1 ?_
 refine Z18 ?_
 refine oq (op_mulw rfl rfl) ?_
 refine oq (op_conv8i Try.underlying5 (by rw [Try.underlying3]; rfl) rfl) ?_
 refine oq (op_aidx 31 a1_24 rfl rfl rfl (by decide)) ?_
 refine oN (os_storer _ sc_5 rfl rfl (by decide) (Free.zero _)) ?_; rintro _ _ ⟨rfl, rfl⟩
 refine Z19 ?_
 refine Z2k ?_
 refine Z9 ?_
 refine Z4s ?_
 exact px_rv1 rfl (rv_cella 0 ag_24 rfl rfl (rootC_take' _) (by simp [rootC_len])) (fun _ s => ((s.del 1).del 0)) ⟨rfl, rfl⟩
end Go.SL

set_option linter.unusedVariables false
set_option linter.unusedSimpArgs false
namespace Go.SL
open Go.Proofs

theorem laidOutT : laidOutB Try.prog = true := by kernel_rfl
theorem keyed_root : Go.Maps.Keyed Try.prog 24 := Go.Maps.Keyed.of_law (deep_law_laid laidOutT (m := 3) (by omega) (show 24 < Try.prog.types.size from Nat.le_of_ble_eq_true (by kernel_rfl)) (by kernel_rfl) (by kernel_rfl))
/-- a tree: all that it owns -/
def TreeObj (p : Nat) (t : TreeS) : HProp := ex fun x : Option Addr × Nat × Nat => match x with | (a1, c1, b) => stars [pr t.WF, Blk p (.cells #[.slice a1 t.nodes.length c1, .map (some b), .int .i64 t.most] 114 (0, 0)), Row 51 encNode (.slice a1 t.nodes.length c1) t.nodes, MapO EVR EVI b (atOf t.nodes)]
theorem Sat.treeOpen {w0 w : World} {l : List HProp} {p : Nat} {t : TreeS} (s : Sat w0 w (TreeObj p t :: l)) : ∃ a1 c1 b, t.WF ∧ Sat w0 w (Blk p (.cells #[.slice a1 t.nodes.length c1, .map (some b), .int .i64 t.most] 114 (0, 0)) :: Row 51 encNode (.slice a1 t.nodes.length c1) t.nodes :: MapO EVR EVI b (atOf t.nodes) :: l) := by
 obtain ⟨⟨a1, c1, b⟩, s⟩ := Sat.ex_iff.1 s
 have s1 := Sat.stars_iff.1 s
 obtain ⟨hw, s2⟩ := Sat.pr_iff.1 s1
 exact ⟨a1, c1, b, hw, s2⟩
theorem Sat.treeMk {w0 w : World} {l : List HProp} {p : Nat} {t : TreeS} {a1 : Option Addr} {c1 b m1 : Nat} (hw : t.WF) (h1 : m1 = t.nodes.length)
  (s : Sat w0 w (Blk p (.cells #[.slice a1 m1 c1, .map (some b), .int .i64 t.most] 114 (0, 0)) :: Row 51 encNode (.slice a1 m1 c1) t.nodes :: MapO EVR EVI b (atOf t.nodes) :: l)) : Sat w0 w (TreeObj p t :: l) := by
 subst h1
 exact Sat.ex_iff.2 ⟨(a1, c1, b), Sat.stars_iff.2 (Sat.pr_iff.2 ⟨hw, s⟩)⟩
theorem Sat.treeWF {w0 w : World} {l : List HProp} {p : Nat} {t : TreeS} (s : Sat w0 w (TreeObj p t :: l)) : t.WF := let ⟨_, _, _, h, _⟩ := s.treeOpen; h
theorem cd_treeOpen {w0 : World} {n : Nat} {Q : Exit → Act → World → Prop} {f : Fr} {c : Code} {l : List HProp} {p : Nat} {t : TreeS} (h : ∀ a1 c1 b, t.WF → CD Try.prog w0 n c Q f (Blk p (.cells #[.slice a1 t.nodes.length c1, .map (some b), .int .i64 t.most] 114 (0, 0)) :: Row 51 encNode (.slice a1 t.nodes.length c1) t.nodes :: MapO EVR EVI b (atOf t.nodes) :: l)) : CD Try.prog w0 n c Q f (TreeObj p t :: l) := fun a w r s =>
 let ⟨a1, c1, b, hw, s'⟩ := s.treeOpen
 h a1 c1 b hw a w r s'
theorem keyok_tree {t : TreeS} (hw : t.WF) (r : Root) : KeyOK Try.prog 24 EVR (atOf t.nodes) r := keyokR keyed_root rk_24 r (by rw [atOf_keys]; exact hw.nd)

set_option maxRecDepth 100000 in
set_option maxHeartbeats 1000000 in
theorem TNew_calls {w0 w : World} {l : List HProp} (r : Root) (slot most : Int) (hs : Sat w0 w (l))  :
  Calls Try.prog 45 #[.agg (rootC r).toArray, .int .i64 slot, .int .i64 most] w (Ret w0 fun v l' => (v = .tuple #[.pointer none, .int .i64 1] ∧ l' = l ∧ (most < 1 ∨ 256 < most ∨ slot < 0 ∨ 1073741824 < slot)) ∨ ∃ p, v = .tuple #[.pointer (some ⟨p, 0, none⟩), .int .i64 0] ∧ (1 ≤ most ∧ most ≤ 256 ∧ 0 ≤ slot ∧ slot ≤ 1073741824) ∧ l' = TreeObj p (TreeS.new r slot most) :: l) := by
 refine calls_enter Try.func45 rfl rfl rfl hs ?_
 refine Zj ?_; intro bx1
 refine Zc ?_
 refine Z8 ?_
 refine Zf ?_
 refine Z4y ?_
 refine Z5 ?_
 refine ol_split 10 rfl (fun hb1 => ?_) (fun hb1 => ?_)
 ·have hp1 := hb1
  (try simp only [bn] at hp1)
  refine Z69 ?_
  refine Z20 ?_
  refine Z3h ?_
  refine Z3h ?_
  refine Z3p ?_
  refine Zp ?_
  refine Z13 ?_
  exact Z9c
 have hp1 := hb1
 (try simp only [bn] at hp1)
 refine Z2q ?_
 refine Z8f ?_
 refine Z21 ?_
 refine Z5 ?_
 refine ol_split 14 rfl (fun hb2 => ?_) (fun hb2 => ?_)
 ·have hp2 := hb2
  (try simp only [bn] at hp2)
  refine Z1g ?_
  refine Z37 ?_
  refine Z3h ?_
  refine Z3p ?_
  refine Zp ?_
  refine Z13 ?_
  exact Z9c
 have hp2 := hb2
 (try simp only [bn] at hp2)
 refine Z4i ?_
 refine Z8g ?_
 refine Z2v ?_
 refine Z5 ?_
 refine ol_split 18 rfl (fun hb3 => ?_) (fun hb3 => ?_)
 ·have hp3 := hb3
  (try simp only [bn] at hp3)
  refine Z2p ?_
  refine Z4j ?_
  refine Z3p ?_
  refine Zp ?_
  refine Z13 ?_
  exact Z9c
 have hp3 := hb3
 (try simp only [bn] at hp3)
 refine Z5f ?_
 refine Z5t ?_
 refine Z5g ?_
 refine Z1 ?_
 refine cd_cond rfl (fun hb4 => ?_) (fun hb4 => ?_)
 ·have hp4 := hb4
  (try simp only [bn] at hp4)
  refine Z31 ?_
  refine Zp ?_
  refine Z13 ?_
  exact Z9c
 have hp4 := hb4
 (try simp only [bn] at hp4)
 refine Zn ?_
 refine cd_drawe (M := []) mx [3, 4, 6, 10] ?_
 refine e_q 0 rfl (wn_none rfl) (op_lda (L := rootC _) 0 ag_24 rfl rfl (rootC_take' _) (by simp [rootC_len])) ?_
 refine Z6t ?_
 refine e_q 2 rfl (wn_none rfl) (op_build (L := nodeC _) (vs := [(0, .agg (rootC _).toArray), (1, .int _ _), (2, .int _ _)]) bB_51 rfl ⟨⟨by simp [Value.cells, rootC_len], by rw [nodeC_len]; rfl⟩, ⟨rfl, by rw [nodeC_len]; rfl⟩, ⟨rfl, by rw [nodeC_len]; rfl⟩, trivial⟩ ((nodeC_b0 _ _ _).trans ((nodeC_b1 _ _ _).trans ((nodeC_b2 _ _ _).trans rfl)))) ?_
 refine e_q 5 rfl (wn_none rfl) (op_lda (L := rootC _) 0 ag_24 rfl rfl (rootC_take' _) (by simp [rootC_len])) ?_
 refine e_q 8 rfl (wn_none rfl) (op_move (v := .int _ _) rfl) ?_
 refine et_2 (i1 := 3) (i2 := 4) (by kernel_rfl) ?_ ?_
 ·
  refine ei_i rfl rfl (wn_none rfl) (os_bslice (E := encNode) [_] (ys := [_]) sB_111 zv_51 rfl rfl rfl rfl (by decide)) rfl ?_; rintro _ _ ⟨ao1, rfl, rfl⟩; refine ⟨[_], rfl, ?_⟩
  refine Z2g ?_
  refine ei_i rfl rfl (wn_none rfl) (os_makeMapO EVR EVI) rfl ?_; rintro _ _ ⟨mp2, rfl, rfl⟩; refine ⟨[_, _], rfl, ?_⟩
  refine Z14 ?_
  refine ei_iN rfl rfl (wn_none rfl) (os_insert r (0 : Int) Try.underlying112 (keyokR keyed_root rk_24 r (by simp)) rfl rfl rfl) ?_; rintro _ _ ⟨rfl, rfl⟩; refine ⟨[_, _], rfl, ?_⟩
  refine e_q 7 rfl (wn_none rfl) (op_move (v := .map _) rfl) ?_
  refine Zan ?_
  refine Z1f ?_
  refine Zb9 ?_; intro bx3
  refine e_q 12 rfl (wn_none rfl) (op_assign (v := .int _ _) rfl) ?_
  refine Z1t ?_
  exact Zbg
 refine ei_i rfl rfl (wn_none rfl) (os_makeMapO EVR EVI) rfl ?_; rintro _ _ ⟨mp4, rfl, rfl⟩; refine ⟨[_], rfl, ?_⟩
 refine et_2 (i1 := 3) (i2 := 6) (by kernel_rfl) ?_ ?_
 ·
  refine ei_i rfl rfl (wn_none rfl) (os_bslice (E := encNode) [_] (ys := [_]) sB_111 zv_51 rfl rfl rfl rfl (by decide)) rfl ?_; rintro _ _ ⟨ao2, rfl, rfl⟩; refine ⟨[_, _], rfl, ?_⟩
  refine Z14 ?_
  refine ei_iN rfl rfl (wn_none rfl) (os_pull1 (os_insert r (0 : Int) Try.underlying112 (keyokR keyed_root rk_24 r (by simp)) rfl rfl rfl)) ?_; rintro _ _ ⟨rfl, rfl⟩; refine ⟨[_, _], rfl, ?_⟩
  refine e_q 7 rfl (wn_none rfl) (op_move (v := .map _) rfl) ?_
  refine Zan ?_
  refine Z1f ?_
  refine Zb9 ?_; intro bx5
  refine e_q 12 rfl (wn_none rfl) (op_assign (v := .int _ _) rfl) ?_
  refine Z1t ?_
  exact Zbg
 refine ei_iN rfl rfl (wn_none rfl) (os_insert r (0 : Int) Try.underlying112 (keyokR keyed_root rk_24 r (by simp)) rfl rfl rfl) ?_; rintro _ _ ⟨rfl, rfl⟩; refine ⟨[_], rfl, ?_⟩
 refine e_q 7 rfl (wn_none rfl) (op_move (v := .map _) rfl) ?_
 refine et_1 (i := 3) (by kernel_rfl) ?_
 refine ei_i rfl rfl (wn_none rfl) (os_bslice (E := encNode) [_] (ys := [_]) sB_111 zv_51 rfl rfl rfl rfl (by decide)) rfl ?_; rintro _ _ ⟨ao3, rfl, rfl⟩; refine ⟨[_, _], rfl, ?_⟩
 refine Zan ?_
 refine Z1f ?_
 refine Zb9 ?_; intro bx6
 refine e_q 12 rfl (wn_none rfl) (op_assign (v := .int _ _) rfl) ?_
 refine Z1t ?_
 exact px_ret2 rfl (v1 := .pointer _) (v2 := .int _ _) (l' := TreeObj _ (TreeS.new r slot most) :: l) rfl rfl (fun _ s => Sat.treeMk (t := TreeS.new r slot most) (TreeS.WF.new (by omega) (by omega) (by omega) (by omega)) rfl (s.del 3)) (.inr ⟨_, rfl, by omega, rfl⟩)

set_option maxRecDepth 100000 in
set_option maxHeartbeats 1000000 in
theorem Place_calls {w0 w : World} {l : List HProp} (p : Nat) (t : TreeS) (r : Root) (hs : Sat w0 w ((TreeObj p t) :: l))  :
  Calls Try.prog 31 #[.pointer (some ⟨p, 0, none⟩), .agg (rootC r).toArray] w (Ret w0 fun v l' => v = .int .i64 (t.place r) ∧ l' = TreeObj p t :: l) := by
 obtain ⟨a1, c1, b, hw, hs⟩ := hs.treeOpen
 have hm1 := hw.m1; have hm2 := hw.m2; have hle := hw.le; have hne := hw.ne
 refine calls_enter Try.func31 rfl rfl rfl hs ?_
 refine Z3z ?_; intro bx1
 refine Z6c ?_
 refine Z3a ?_
 refine Zn ?_
 rcases hlk : idxOf t.nodes r with _ | i0
 ·
  refine Z1u ?_
  refine Z6 ?_
  refine Z9f ?_
  refine rg_q (wn_none rfl) (op_ld 1 sc_112 rfl rfl rfl) rfl rfl ?_
  refine Z17 ?_
  refine rg_q (wn_none rfl) (op_lookup2N 3 r Try.underlying112 zB_3 (keyok_tree hw r) (by rw [look_at_, hlk]; rfl) rfl rfl rfl) rfl rfl ?_
  refine Z4z ?_
  refine Z8h ?_
  refine Z6d ?_
  refine Z2w ?_
  refine Z2x ?_
  refine Z1a ?_
  refine Z0 ?_
  refine Z5 ?_
  refine Z2c ?_
  refine Z1c ?_
  exact Zbh
 refine Z1u ?_
 refine Z6 ?_
 refine Z9f ?_
 refine rg_q (wn_none rfl) (op_ld 1 sc_112 rfl rfl rfl) rfl rfl ?_
 refine Z17 ?_
 refine rg_q (wn_none rfl) (op_lookup2S 3 r Try.underlying112 zB_3 (keyok_tree hw r) (by rw [look_at_, hlk]; rfl) rfl rfl rfl) rfl rfl ?_
 refine Z4z ?_
 refine Z8h ?_
 refine Z6d ?_
 refine Z2w ?_
 refine Z2x ?_
 refine Z1a ?_
 refine Z0 ?_
 refine Z5 ?_
 refine Z2b ?_
 refine Z3b ?_
 refine Z13 ?_
 exact Zbh

set_option maxRecDepth 100000 in
set_option maxHeartbeats 1000000 in
theorem Node_calls {w0 w : World} {l : List HProp} (p : Nat) (t : TreeS) (i : Int) (hs : Sat w0 w ((TreeObj p t) :: l))  :
  Calls Try.prog 24 #[.pointer (some ⟨p, 0, none⟩), .int .i64 i] w (Ret w0 fun v l' => v = .tuple #[.agg (nodeC ((t.node i).getD nodeNo)).toArray, .bool (t.node i).isSome] ∧ l' = TreeObj p t :: l) := by
 obtain ⟨a1, c1, b, hw, hs⟩ := hs.treeOpen
 have hm1 := hw.m1; have hm2 := hw.m2; have hle := hw.le; have hne := hw.ne
 refine calls_enter Try.func24 rfl rfl rfl hs ?_
 refine Z0 ?_
 refine Z3k ?_; intro bx1
 refine Zb ?_
 refine Z1q ?_
 refine Z6c ?_
 refine Zbe ?_
 refine ol_q (wn_some rfl rfl rfl rfl rfl) (op_lt rfl rfl) rfl ?_
 refine Z6v ?_
 refine Z5 ?_
 refine ol_split 12 rfl (fun hb1 => ?_) (fun hb1 => ?_)
 ·have hp1 := hb1
  (try simp only [bn] at hp1)
  refine Z3o ?_
  refine Z4t ?_
  refine Z20 ?_
  refine Z2b ?_
  refine Z0 ?_
  refine oq (op_build (L := nodeC _) (vs := [(2, .int _ _)]) bB_51 rfl ⟨⟨rfl, by rw [nodeC_len]; rfl⟩, trivial⟩ ((nodeC_b2 _ _ _).trans rfl)) ?_
  refine Z9g ?_
  refine Zv ?_
  have e : t.node i = none := by unfold TreeS.node; first | rw [if_neg (by omega)] | (rw [if_pos (by omega), List.getElem?_eq_none (by omega)])
  rw [e]
  exact Zao
 have hp1 := hb1
 (try simp only [bn] at hp1)
 refine Z2q ?_
 refine Z50 ?_
 refine Z51 ?_
 refine ol_q (wn_some rfl rfl rfl hb1 rfl) (op_field fld_114_0 rfl) rfl ?_
 refine ol_q (wn_some rfl rfl rfl hb1 rfl) (op_ld 1 sc_111 rfl rfl rfl) rfl ?_
 refine ol_q (wn_some rfl rfl rfl hb1 rfl) (op_len_slice Try.underlying111 rfl) rfl ?_
 refine ol_q (wn_some rfl rfl rfl hb1 rfl) (op_ge rfl rfl) rfl ?_
 refine Z21 ?_
 refine Z1 ?_
 refine cd_cond rfl (fun hb2 => ?_) (fun hb2 => ?_)
 ·have hp2 := hb2
  (try simp only [bn] at hp2)
  refine Z0 ?_
  refine oq (op_build (L := nodeC _) (vs := [(2, .int _ _)]) bB_51 rfl ⟨⟨rfl, by rw [nodeC_len]; rfl⟩, trivial⟩ ((nodeC_b2 _ _ _).trans rfl)) ?_
  refine Z9g ?_
  refine Zv ?_
  have e : t.node i = none := by unfold TreeS.node; first | rw [if_neg (by omega)] | (rw [if_pos (by omega), List.getElem?_eq_none (by omega)])
  rw [e]
  exact Zao
 have hp2 := hb2
 (try simp only [bn] at hp2)
 refine Za ?_
 refine Z1v ?_
 refine oq (op_field fld_114_0 rfl) ?_
 refine oq (op_ld 1 sc_111 rfl rfl rfl) ?_
 refine Z4 ?_
 refine oq (op_index _ sB_111 rfl rfl (Int.toNat_of_nonneg (by omega)).symm (rds_row 2 rfl rfl) rfl (by omega)) ?_
 refine oq (op_ldaw (L := nodeC _) ag_51 (rds_row 2 rfl rfl) rfl (by omega) rfl (nodeC_ta _)) ?_
 refine Z9g ?_
 refine Zk ?_
 have e : t.node i = some t.nodes[i.toNat] := by unfold TreeS.node; rw [if_pos (by omega), List.getElem?_eq_getElem (by omega)]
 rw [e]
 exact Zao

set_option maxRecDepth 100000 in
set_option maxHeartbeats 1000000 in
theorem Len_calls {w0 w : World} {l : List HProp} (p : Nat) (t : TreeS) (hs : Sat w0 w ((TreeObj p t) :: l))  :
  Calls Try.prog 29 #[.pointer (some ⟨p, 0, none⟩)] w (Ret w0 fun v l' => v = .int .i64 t.nodes.length ∧ l' = TreeObj p t :: l) := by
 obtain ⟨a1, c1, b, hw, hs⟩ := hs.treeOpen
 have hm1 := hw.m1; have hm2 := hw.m2; have hle := hw.le; have hne := hw.ne
 refine calls_enter Try.func29 rfl rfl rfl hs ?_
 refine Z0 ?_
 refine Z5a ?_
 refine Z6c ?_
 refine Z2c ?_
 refine Z1v ?_
 refine oq (op_field fld_114_0 rfl) ?_
 refine oq (op_ld 0 sc_111 rfl rfl rfl) ?_
 refine oq (op_len_slice Try.underlying111 rfl) ?_
 refine Zp ?_
 exact px_ret1 rfl (v := .int _ _) (l' := TreeObj p t :: l) rfl (fun _ s => Sat.treeMk hw rfl s) ⟨rfl, rfl⟩

set_option maxRecDepth 100000 in
set_option maxHeartbeats 1000000 in
theorem Room_calls {w0 w : World} {l : List HProp} (p : Nat) (t : TreeS) (hs : Sat w0 w ((TreeObj p t) :: l))  :
  Calls Try.prog 21 #[.pointer (some ⟨p, 0, none⟩)] w (Ret w0 fun v l' => v = .int .i64 (t.most - t.nodes.length) ∧ l' = TreeObj p t :: l) := by
 obtain ⟨a1, c1, b, hw, hs⟩ := hs.treeOpen
 have hm1 := hw.m1; have hm2 := hw.m2; have hle := hw.le; have hne := hw.ne
 refine calls_enter Try.func21 rfl rfl rfl hs ?_
 refine Z0 ?_
 refine Z5a ?_
 refine Z6c ?_
 refine Z3a ?_
 refine Zn ?_
 refine Z6u ?_
 refine Z6 ?_
 refine rg_q (wn_none rfl) (op_field fld_114_2 rfl) rfl rfl ?_
 refine Z8i ?_
 refine Z6 ?_
 refine rg_q (wn_none rfl) (op_field fld_114_0 rfl) rfl rfl ?_
 refine rg_q (wn_none rfl) (op_ld 0 sc_111 rfl rfl rfl) rfl rfl ?_
 refine rg_q (wn_none rfl) (op_len_slice Try.underlying111 rfl) rfl rfl ?_
 refine Z6w ?_
 refine Z3q ?_
 refine cd_ret ?_
 exact px_ret1 rfl (v := .int _ _) (l' := TreeObj p t :: l) rfl (fun _ s => Sat.treeMk hw rfl s) ⟨rfl, rfl⟩

set_option maxRecDepth 100000 in
set_option maxHeartbeats 1000000 in
theorem Add_calls {w0 w : World} {l : List HProp} (p : Nat) (t : TreeS) (r q : Root) (slot : Int) (hs : Sat w0 w ((TreeObj p t) :: l))  :
  Calls Try.prog 47 #[.pointer (some ⟨p, 0, none⟩), .agg (rootC r).toArray, .agg (rootC q).toArray, .int .i64 slot] w (Ret w0 fun v l' => v = .int .i64 (t.add r q slot).1 ∧ l' = TreeObj p (t.add r q slot).2 :: l) := by
 have hw := hs.treeWF; have hwf2 := hw.add r q slot
 have hm1 := hw.m1; have hm2 := hw.m2; have hle := hw.le; have hne := hw.ne
 refine calls_enter Try.func47 rfl rfl rfl hs ?_
 refine Zj ?_; intro bx1
 refine Z2f ?_; intro bx2
 refine Z8 ?_
 refine Z3i ?_
 refine Z2k ?_
 refine Zs ?_
 refine Z9h ?_
 refine oi (os_call cb_24 rfl (fun w s => Node_calls _ _ _  s )) ?_; rintro _ _ ⟨rfl, rfl⟩
 refine Z3r ?_
 refine Z3k ?_; intro bx3
 refine Z4a ?_
 refine Z7 ?_
 refine cd_block ?_
 refine Zg ?_
 refine Z6c ?_
 refine Zb ?_
 refine cd_cond_f rfl rfl ?_
 refine Zg ?_
 refine oq (op_lda (L := rootC _) 3 ag_24 rfl rfl (rootC_take' _) (by simp [rootC_len])) ?_
 refine Z9 ?_
 refine Z9h ?_
 refine Z5h ?_
 refine Zb ?_
 refine cd_cond rfl (fun hb1 => ?_) (fun hb1 => ?_)
 ·have hp1 := hb1
  (try simp only [bn] at hp1)
  have hr1 : (idxOf t.nodes r).isSome = true := TreeS.place_iff.1 (of_decide_eq_true hb1)
  refine Z1c ?_
  refine Z2o ?_
  have e : t.add r q slot = (4, t) := by unfold TreeS.add; rw [if_pos hr1]
  rw [e]
  exact Z8j
 have hp1 := hb1
 (try simp only [bn] at hp1)
 have hr1 : ¬ (idxOf t.nodes r).isSome = true := fun h => absurd (TreeS.place_iff.2 h) (of_decide_eq_false hb1)
 have hr0 : idxOf t.nodes r = none := by cases e : idxOf t.nodes r <;> simp_all
 refine Z0 ?_
 refine Zba ?_
 refine Z5 ?_
 refine ol_split 30 rfl (fun hb2 => ?_) (fun hb2 => ?_)
 ·have hp2 := hb2
  (try simp only [bn] at hp2)
  have hq0 := TreeS.node_place_none (by simpa using hb2)
  have hcase : (match idxOf t.nodes q with | none => (5, t) | some j => if slot ≤ ((t.nodes[j]?).getD nodeNo).slot ∨ 1073741824 < slot then (5, t) else if t.most ≤ t.nodes.length then (6, t) else (0, { t with nodes := t.nodes ++ [⟨r, slot, (j : Int)⟩] })) = ((5 : Int), t) := by rw [hq0]
  refine Z1g ?_
  refine Z1g ?_
  refine Z37 ?_
  refine Z3h ?_
  refine Zb ?_
  refine Z5e ?_
  refine Z1c ?_
  refine Z2o ?_
  have e : t.add r q slot = (5, t) := by unfold TreeS.add; rw [if_neg hr1]; exact hcase
  rw [e]
  exact Z8j
 have hp2 := hb2
 (try simp only [bn] at hp2)
 obtain ⟨j, m0, hqj, hm0, hnode⟩ := TreeS.node_place_some (t := t) (r := q) (by simpa using hb2)
 have hgs : ((t.node (t.place q)).getD nodeNo).slot = m0.slot := by rw [hnode]; rfl
 have hmsl := hw.sl m0 (List.mem_of_getElem? hm0)
 refine ol_q (wn_some rfl rfl rfl hb2 rfl) (op_field fld_51_1 rfl) rfl ?_
 refine ol_q (wn_some rfl rfl rfl hb2 rfl) (op_ld 1 sc_3 rfl rfl (nodeC_a32 _)) rfl ?_
 refine Z4i ?_
 refine ol_q (wn_some rfl rfl rfl hb2 rfl) (op_ge rfl rfl) rfl ?_
 refine Z2v ?_
 refine Z5 ?_
 refine ol_split 36 rfl (fun hb3 => ?_) (fun hb3 => ?_)
 ·have hp3 := hb3
  (try simp only [bn] at hp3)
  have hcase : (match idxOf t.nodes q with | none => (5, t) | some j => if slot ≤ ((t.nodes[j]?).getD nodeNo).slot ∨ 1073741824 < slot then (5, t) else if t.most ≤ t.nodes.length then (6, t) else (0, { t with nodes := t.nodes ++ [⟨r, slot, (j : Int)⟩] })) = ((5 : Int), t) := by rw [hqj]; simp only [hm0, Option.getD_some]; rw [if_pos (.inl (by rw [← hgs]; exact of_decide_eq_true hb3))]
  refine Z2p ?_
  refine Z4j ?_
  refine Zb ?_
  refine Z5e ?_
  refine Z1c ?_
  refine Z2o ?_
  have e : t.add r q slot = (5, t) := by unfold TreeS.add; rw [if_neg hr1]; exact hcase
  rw [e]
  exact Z8j
 have hp3 := hb3
 (try simp only [bn] at hp3)
 refine Z5f ?_
 refine Z5t ?_
 refine Z5g ?_
 refine Zb ?_
 refine cd_cond rfl (fun hb4 => ?_) (fun hb4 => ?_)
 ·have hp4 := hb4
  (try simp only [bn] at hp4)
  have hcase : (match idxOf t.nodes q with | none => (5, t) | some j => if slot ≤ ((t.nodes[j]?).getD nodeNo).slot ∨ 1073741824 < slot then (5, t) else if t.most ≤ t.nodes.length then (6, t) else (0, { t with nodes := t.nodes ++ [⟨r, slot, (j : Int)⟩] })) = ((5 : Int), t) := by rw [hqj]; simp only [hm0, Option.getD_some]; rw [if_pos (.inr (of_decide_eq_true hb4))]
  refine Z1c ?_
  refine Z2o ?_
  have e : t.add r q slot = (5, t) := by unfold TreeS.add; rw [if_neg hr1]; exact hcase
  rw [e]
  exact Z8j
 have hp4 := hb4
 (try simp only [bn] at hp4)
 have hsl : ¬ (slot ≤ m0.slot ∨ 1073741824 < slot) := by rw [← hgs]; omega
 refine Zg ?_
 refine oi (os_call cb_21 rfl (fun w s => Room_calls _ _  s )) ?_; rintro _ _ ⟨rfl, rfl⟩
 refine oq (op_le rfl rfl) ?_
 refine Zb ?_
 refine cd_cond rfl (fun hb5 => ?_) (fun hb5 => ?_)
 ·have hp5 := hb5
  (try simp only [bn] at hp5)
  have hcase := hqj
  refine Z1c ?_
  refine Z2o ?_
  have e : t.add r q slot = (6, t) := by unfold TreeS.add; rw [if_neg hr1, hcase]; simp only [hm0, Option.getD_some]; rw [if_neg hsl, if_pos (by omega)]
  rw [e]
  exact Z8j
 have hp5 := hb5
 (try simp only [bn] at hp5)
 have hadd : t.add r q slot = (0, { t with nodes := t.nodes ++ [⟨r, slot, (j : Int)⟩] }) := by unfold TreeS.add; rw [if_neg hr1, hqj]; simp only [hm0, Option.getD_some]; rw [if_neg hsl, if_neg (by omega)]
 have hins := ins_at (ns := t.nodes) (x := ⟨r, slot, (j : Int)⟩) hr0
 have hjl := idxOf_lt hqj
 refine cd_skip ?_
 refine Z97 ?_
 refine cd_treeOpen ?_; intro a1 c1 b _
 refine Z7 ?_
 refine cd_drawt (M := []) mx [] 10 (by kernel_rfl) rfl rfl ?_
 dsimp only [List.take_succ_cons, List.take_zero, List.drop_succ_cons, List.drop_zero]
 refine Z6 ?_
 refine Z9f ?_
 refine rg_q (wn_none rfl) (op_ld 0 sc_112 rfl rfl rfl) rfl rfl ?_
 refine rg_q (wn_none rfl) (op_lda (L := rootC _) 5 ag_24 rfl rfl (rootC_take' _) (by simp [rootC_len])) rfl rfl ?_
 refine Z6 ?_
 refine rg_q (wn_none rfl) (op_field fld_114_0 rfl) rfl rfl ?_
 refine rg_q (wn_none rfl) (op_ld 0 sc_111 rfl rfl rfl) rfl rfl ?_
 refine rg_q (wn_none rfl) (op_len_slice Try.underlying111 rfl) rfl rfl ?_
 refine rg_tail0 ?_
 refine Zs ?_
 refine oN (os_mapUpdate r (t.nodes.length : Int) Try.underlying112 (keyok_tree hw r) rfl rfl rfl) ?_; rintro _ _ ⟨rfl, rfl⟩; rw [hins]
 refine Z1 ?_
 refine cd_pull2 ?_
 refine Z7 ?_
 refine cd_drawt (M := [_]) mx [14, 15] 16 (by kernel_rfl) rfl rfl ?_
 dsimp only [List.take_succ_cons, List.take_zero, List.drop_succ_cons, List.drop_zero]
 refine Zd ?_
 refine Z6 ?_
 refine rg_q (wn_none rfl) (op_field fld_114_0 rfl) rfl rfl ?_
 refine rg_q (wn_none rfl) (op_ld 1 sc_111 rfl rfl rfl) rfl rfl ?_
 refine rg_q (wn_none rfl) (op_lda (L := rootC _) 4 ag_24 rfl rfl (rootC_take' _) (by simp [rootC_len])) rfl rfl ?_
 refine Ze ?_
 refine Z6 ?_
 refine Z9f ?_
 refine rg_q (wn_none rfl) (op_ld 1 sc_112 rfl rfl rfl) rfl rfl ?_
 refine rg_q (wn_none rfl) (op_lda (L := rootC _) 3 ag_24 rfl rfl (rootC_take' _) (by simp [rootC_len])) rfl rfl ?_
 refine rg_q (wn_none rfl) (op_lookup1S 0 q Try.underlying112 zB_3 (keyokR keyed_root rk_24 q (by rw [atOf_keys]; rw [hadd] at hwf2; exact hwf2.nd)) (v := (j : Int)) (by rw [look_at_, idxOf_append, hqj]; rfl) rfl rfl rfl) rfl rfl ?_
 refine rg_q (wn_none rfl) (op_build (L := nodeC _) (vs := [(0, .agg (rootC _).toArray), (1, .int _ _), (2, .int _ _)]) bB_51 rfl ⟨⟨by simp [Value.cells, rootC_len], by rw [nodeC_len]; rfl⟩, ⟨rfl, by rw [nodeC_len]; rfl⟩, ⟨rfl, by rw [nodeC_len]; rfl⟩, trivial⟩ ((nodeC_b0 _ _ _).trans ((nodeC_b1 _ _ _).trans ((nodeC_b2 _ _ _).trans rfl)))) rfl rfl ?_
 refine rg_i (wn_none rfl) (os_bslice (E := encNode) [_] (ys := [_]) sB_111 zv_51 rfl rfl rfl rfl (by decide)) rfl rfl ?_; rintro _ _ ⟨ao1, rfl, rfl⟩; refine ⟨[_, _], rfl, ?_⟩
 refine rg_i (wn_none rfl) (os_pull1 (os_append (E := encNode) rfl sB_111 zv_51 rfl rfl rfl (fun w s => (rds_row 1 rfl rfl) [] w s) rfl (by simp; omega) (by unfold maxLen; simp; omega))) rfl rfl ?_; rintro _ _ ⟨ao2, ac2, rfl, rfl⟩; refine ⟨[_, _], rfl, ?_⟩
 refine rg_tail2 ?_
 refine Zr ?_
 refine oq (op_field fld_114_0 rfl) ?_
 refine Zl ?_
 refine oN (os_store (v := .slice _ _ _) sc_111 rfl rfl rfl rfl (Free.zero _) rfl) ?_; rintro _ _ ⟨rfl, rfl⟩
 refine Z1 ?_
 refine Z1c ?_
 rw [hadd] at hwf2 ⊢
 exact px_ret1 rfl (v := .int _ _) (l' := TreeObj p { t with nodes := t.nodes ++ [⟨r, slot, (j : Int)⟩] } :: l) rfl (fun _ s => Sat.treeMk (t := { t with nodes := t.nodes ++ [⟨r, slot, (j : Int)⟩] }) hwf2 (by simp) ((((s.del 6).del 5).del 4).del 2)) ⟨rfl, rfl⟩

end Go.SL

set_option linter.unusedVariables false
set_option linter.unusedSimpArgs false
namespace Go.SL
def M64 : Nat := 18446744073709551616
def mul64 (x y : Nat) : Nat × Nat :=
  ((((x / 2 ^ 32 * (y / 2 ^ 32)) % 18446744073709551616 + ((x / 2 ^ 32 * (y % 4294967296)) % 18446744073709551616 + (x % 4294967296 * (y % 4294967296)) % 18446744073709551616 / 2 ^ 32) % 18446744073709551616 / 2 ^ 32) % 18446744073709551616 +
    (((x / 2 ^ 32 * (y % 4294967296)) % 18446744073709551616 + (x % 4294967296 * (y % 4294967296)) % 18446744073709551616 / 2 ^ 32) % 18446744073709551616 % 4294967296 + (x % 4294967296 * (y / 2 ^ 32)) % 18446744073709551616) % 18446744073709551616 / 2 ^ 32) % 18446744073709551616,
   (x * y) % 18446744073709551616)
theorem mul64_lt (x y : Nat) : (mul64 x y).1 < 18446744073709551616 ∧ (mul64 x y).2 < 18446744073709551616 := ⟨Nat.mod_lt _ (by decide), Nat.mod_lt _ (by decide)⟩
def aboveM (x p : Nat) (power : Int) : Bool :=
  if power = 2 then decide (p < (mul64 x x).1) || (decide ((mul64 x x).1 = p) && decide (0 < (mul64 x x).2))
  else if ((mul64 (mul64 x x).1 x).1 + ((mul64 (mul64 x x).1 x).2 + (mul64 (mul64 x x).2 x).1) / 18446744073709551616) % 18446744073709551616 ≠ p / 2 ^ 32 then
    decide (p / 2 ^ 32 < ((mul64 (mul64 x x).1 x).1 + ((mul64 (mul64 x x).1 x).2 + (mul64 (mul64 x x).2 x).1) / 18446744073709551616) % 18446744073709551616)
  else if ((mul64 (mul64 x x).1 x).2 + (mul64 (mul64 x x).2 x).1) % 18446744073709551616 ≠ p * 2 ^ 32 % 18446744073709551616 then
    decide (p * 2 ^ 32 % 18446744073709551616 < ((mul64 (mul64 x x).1 x).2 + (mul64 (mul64 x x).2 x).1) % 18446744073709551616)
  else decide (0 < (mul64 (mul64 x x).2 x).2)
def rootN (p : Nat) (power : Int) : Nat → Nat
  | 0 => 0
  | i + 1 => if aboveM ((rootN p power i + 1 * 2 ^ (39 - i)) % 18446744073709551616) p power then rootN p power i else (rootN p power i + 1 * 2 ^ (39 - i)) % 18446744073709551616
theorem rootN_lt (p : Nat) (power : Int) : ∀ i, rootN p power i < 18446744073709551616
  | 0 => Nat.zero_lt_succ _
  | i + 1 => by
    rw [rootN]
    split
    · exact rootN_lt p power i
    · exact Nat.mod_lt _ (by decide)
theorem pow39 (i : Nat) : 1 * 2 ^ (39 - i) < 18446744073709551616 := by
  have : 2 ^ (39 - i) ≤ 2 ^ 39 := Nat.pow_le_pow_right (by decide) (by omega)
  omega
theorem all_step {l : List Nat} {j : Nat} (f : Nat → Bool) (h : j < l.length) : (l.take (j + 1)).all f = ((l.take j).all f && f l[j]) := by
  rw [List.take_succ_eq_append_getElem h, List.all_append]
  simp
def rootM (p : Nat) (power : Int) : UInt32 := UInt32.ofNat (rootN p power 40 % 4294967296)
def PLs : Nat → List Nat
  | 0 => []
  | i + 1 => if (PLs i).all (fun p => decide ((i + 2) % p ≠ 0)) then PLs i ++ [i + 2] else PLs i
theorem PLs_step (i : Nat) : PLs (i + 1) = if (PLs i).all (fun p => decide ((i + 2) % p ≠ 0)) then PLs i ++ [i + 2] else PLs i := rfl
theorem PLs_pre (i : Nat) : ∀ d, PLs i <+: PLs (i + d)
  | 0 => List.prefix_refl _
  | d + 1 => by
    refine (PLs_pre i d).trans ?_
    rw [← Nat.add_assoc, PLs_step]
    split
    · exact List.prefix_append _ _
    · exact List.prefix_refl _
theorem PLs_rg (i : Nat) : ∀ p ∈ PLs i, 2 ≤ p ∧ p < i + 2 := by
  induction i with
  | zero => intro p h; cases h
  | succ i ih =>
    intro p h
    rw [PLs_step] at h
    split at h
    · rcases List.mem_append.1 h with h | h
      · have := ih p h; omega
      · have := List.mem_singleton.1 h; omega
    · have := ih p h; omega
set_option maxRecDepth 100000 in
theorem PLs_64 : (PLs 310).length = 64 := by decide +kernel
def prm (n : Nat) : List Nat := (PLs 310).take n
theorem PLs_is {i n : Nat} (hi : i ≤ 310) (h : (PLs i).length = n) : PLs i = prm n := by
  have := List.prefix_iff_eq_take.1 (PLs_pre i (310 - i))
  rw [show i + (310 - i) = 310 by omega, h] at this
  exact this
theorem PLs_len_le {i : Nat} : (PLs (i + 1)).length ≤ (PLs i).length + 1 := by
  rw [PLs_step]
  split <;> simp
set_option maxRecDepth 100000 in
theorem roots8 : (prm 8).map (fun p => rootM p 2) = H0 := by decide +kernel
set_option maxRecDepth 100000 in
theorem roots64 : (prm 64).map (fun p => rootM p 3) = K64 := by decide +kernel
theorem prm_len {n : Nat} (h : n ≤ 64) : (prm n).length = n := by unfold prm; rw [List.length_take, PLs_64]; omega
theorem root8_at {i : Nat} (h : i < (prm 8).length) : rootM (prm 8)[i] 2 = H0.getD i 0 := by
  rw [← roots8]
  simp [List.getD_eq_getElem?_getD, h]
theorem root64_at {i : Nat} (h : i < (prm 64).length) : rootM (prm 64)[i] 3 = K64.getD i 0 := by
  rw [← roots64]
  simp [List.getD_eq_getElem?_getD, h]
def fillN (N : Nat) (m : List UInt32) : List UInt32 := m ++ List.replicate (N - m.length) 0
theorem fillN_len {N : Nat} {m : List UInt32} (h : m.length ≤ N) : (fillN N m).length = N := by simp [fillN]; omega
theorem fillN_set {N : Nat} {m : List UInt32} (h : m.length < N) (u : UInt32) : (fillN N m).set m.length u = fillN N (m ++ [u]) := by
  unfold fillN
  rw [List.set_append_right _ _ (Nat.le_refl _), Nat.sub_self, show N - m.length = (N - (m ++ [u]).length) + 1 by simp; omega, List.replicate_succ, List.set_cons_zero, List.append_assoc]
  rfl
theorem fillN_full {N : Nat} {m : List UInt32} (h : m.length = N) : fillN N m = m := by unfold fillN; rw [h]; simp
theorem fillN_st {N : Nat} {ws : List UInt32} {i : Nat} {u : UInt32} (hN : ws.length = N) (h : i < N) (hu : u = ws.getD i 0) : (wC (fillN N (ws.take i))).toArray.setIfInBounds i (.int .u32 (u.toNat : Int)) = (wC (fillN N (ws.take (i + 1)))).toArray := by
  have hl : (ws.take i).length = i := by rw [List.length_take]; omega
  have h1 := fillN_set (N := N) (m := ws.take i) (by omega) u
  rw [hl] at h1
  rw [wC_set0, h1]
  have h2 : ws.take (i + 1) = ws.take i ++ [u] := by
    rw [List.take_succ_eq_append_getElem (by omega), hu]
    congr 2
    simp [List.getD_eq_getElem?_getD, show i < ws.length by omega]
  rw [h2]
theorem sch_take (l : List UInt32) (j : Nat) : ∀ d, (sch (j + d) l).take (j + l.length) = sch j l
  | 0 => by rw [Nat.add_zero, List.take_of_length_le (by rw [sch_len]; exact Nat.le_refl _)]
  | d + 1 => by
    rw [← Nat.add_assoc, sch, List.take_append_of_le_length (by rw [sch_len]; omega)]
    exact sch_take l j d
theorem lay_lo (bs : List UInt8) {i : Nat} (h : i ≤ 16) : (layM bs).take i = w16 bs i := by
  have h1 := sch_take (w16 bs 16) 0 48
  rw [w16_len] at h1
  have h2 : (layM bs).take 16 = w16 bs 16 := by unfold layM; simpa [sch] using h1
  have h3 : (layM bs).take i = ((layM bs).take 16).take i := by rw [List.take_take, Nat.min_eq_left h]
  rw [h3, h2]
  unfold w16
  rw [← List.map_take, List.take_range, Nat.min_eq_left h]
theorem lay_hi (bs : List UInt8) {k : Nat} (h : k ≤ 48) : (layM bs).take (k + 16) = sch k (w16 bs 16) := by
  have h1 := sch_take (w16 bs 16) k (48 - k)
  rw [w16_len, show k + (48 - k) = 48 by omega] at h1
  exact h1
theorem lay_next (bs : List UInt8) {i : Nat} (h1 : 16 ≤ i) (h2 : i < 64) : (layM bs).take (i + 1) = (layM bs).take i ++ [next16 ((layM bs).take i)] := by
  obtain ⟨k, rfl⟩ : ∃ k, i = k + 16 := ⟨i - 16, by omega⟩
  rw [show k + 16 + 1 = (k + 1) + 16 by omega, lay_hi bs (by omega), lay_hi bs (by omega)]
  rfl
theorem lay_first (bs : List UInt8) {i : Nat} (h : i < 16) : (layM bs).take (i + 1) = (layM bs).take i ++ [word bs i] := by
  rw [lay_lo bs (by omega), lay_lo bs (by omega), w16_succ]
def accW (bs : List UInt8) (i : Nat) : Nat → UInt32
  | 0 => 0
  | k + 1 => accW bs i k * 256 + byteW bs (4 * i + k)
theorem bytes_or (a b c d : Nat) (ha : a < 256) (hb : b < 256) (hc : c < 256) (hd : d < 256) : (a * 2 ^ 24 ||| b * 2 ^ 16 ||| c * 2 ^ 8 ||| d) = ((a * 256 + b) * 256 + c) * 256 + d := by
  have e1 : a * 2 ^ 24 ||| b * 2 ^ 16 = a * 2 ^ 24 + b * 2 ^ 16 := by
    have := Nat.two_pow_add_eq_or_of_lt (i := 24) (b := b * 2 ^ 16) (by omega) a
    rw [Nat.mul_comm (2 ^ 24) a] at this
    exact this.symm
  have e2 : (a * 2 ^ 24 + b * 2 ^ 16) ||| c * 2 ^ 8 = a * 2 ^ 24 + b * 2 ^ 16 + c * 2 ^ 8 := by
    have := Nat.two_pow_add_eq_or_of_lt (i := 16) (b := c * 2 ^ 8) (by omega) (a * 2 ^ 8 + b)
    rw [show 2 ^ 16 * (a * 2 ^ 8 + b) = a * 2 ^ 24 + b * 2 ^ 16 by omega] at this
    exact this.symm
  have e3 : (a * 2 ^ 24 + b * 2 ^ 16 + c * 2 ^ 8) ||| d = a * 2 ^ 24 + b * 2 ^ 16 + c * 2 ^ 8 + d := by
    have := Nat.two_pow_add_eq_or_of_lt (i := 8) (b := d) (by omega) (a * 2 ^ 16 + b * 2 ^ 8 + c)
    rw [show 2 ^ 8 * (a * 2 ^ 16 + b * 2 ^ 8 + c) = a * 2 ^ 24 + b * 2 ^ 16 + c * 2 ^ 8 by omega] at this
    exact this.symm
  rw [e1, e2, e3]
  omega
theorem accW_word (bs : List UInt8) (i : Nat) : accW bs i 4 = word bs i := by
  apply UInt32.toNat_inj.1
  have hb : ∀ j, (byteW bs j).toNat < 256 := fun j => by
    unfold byteW
    have := (bs.getD j 0).toNat_lt
    rw [UInt32.toNat_ofNat']
    omega
  have h0 := hb (4 * i)
  have h1 := hb (4 * i + 1)
  have h2 := hb (4 * i + 2)
  have h3 := hb (4 * i + 3)
  unfold word shl32
  simp only [accW, Nat.add_zero, UInt32.toNat_or, UInt32.toNat_add, UInt32.toNat_mul, UInt32.toNat_ofNat']
  generalize (byteW bs (4 * i)).toNat = a at *
  generalize (byteW bs (4 * i + 1)).toNat = b at *
  generalize (byteW bs (4 * i + 2)).toNat = c at *
  generalize (byteW bs (4 * i + 3)).toNat = d at *
  rw [Nat.mod_eq_of_lt (show a * 2 ^ 24 < 2 ^ 32 by omega), Nat.mod_eq_of_lt (show b * 2 ^ 16 < 2 ^ 32 by omega), Nat.mod_eq_of_lt (show c * 2 ^ 8 < 2 ^ 32 by omega), bytes_or a b c d h0 h1 h2 h3]
  have e0 : (0 : UInt32).toNat = 0 := rfl
  have e256 : (256 : UInt32).toNat = 256 := rfl
  rw [e0, e256]
  omega
theorem fillA_zero {m : List UInt32} (h : m.length < 64) : fillA m = fillA (m ++ [0]) := by
  unfold fillA
  rw [show 64 - m.length = (64 - (m ++ [0]).length) + 1 by simp; omega, List.replicate_succ, List.append_assoc]
  rfl
theorem fillA_last {m : List UInt32} {a : UInt32} {j : Nat} (hj : j = m.length) : (wC (fillA (m ++ [a]))).toArray[j]? = some (.int .u32 (a.toNat : Int)) := by
  subst hj
  rw [fillA_at (by simp)]
  congr 3
  simp [List.getD_eq_getElem?_getD]
theorem fillA_re {m : List UInt32} {a : UInt32} {j : Nat} (hj : j = m.length) (h : m.length < 64) (u : UInt32) : (wC (fillA (m ++ [a]))).toArray.setIfInBounds j (.int .u32 (u.toNat : Int)) = (wC (fillA (m ++ [u]))).toArray := by
  subst hj
  rw [wC_set0]
  congr 2
  unfold fillA
  rw [List.append_assoc, List.set_append_right _ _ (Nat.le_refl _), Nat.sub_self, List.append_assoc]
  simp
def textM (s : List UInt8) : List UInt8 := s ++ [128] ++ List.replicate (zpad (s.length % 64)) 0 ++ be64 (s.length * 8) 8
theorem textM_len (s : List UInt8) : (textM s).length % 64 = 0 := by
  unfold textM
  simp only [List.length_append, List.length_replicate, be64_len, List.length_singleton]
  unfold zpad
  omega
theorem run8_last (T : List UInt8) : ∀ (i : Nat) (w : W8), run8 (i + 1) w T = blk8 (run8 i w T) ((T.drop (64 * i)).take 64)
  | 0, w => by simp [run8]
  | i + 1, w => by
    generalize hT : T = T'
    subst hT
    show run8 (i + 1) (blk8 w (T.take 64)) (T.drop 64) = _
    have e : ∀ (j : Nat) (U : List UInt8) (u : W8), run8 (j + 1) u U = blk8 (run8 j u U) ((U.drop (64 * j)).take 64) := by
      intro j
      induction j with
      | zero => intro U u; simp [run8]
      | succ j ih =>
        intro U u
        show run8 (j + 1) (blk8 u (U.take 64)) (U.drop 64) = _
        rw [ih, List.drop_drop]
        rw [show 64 + 64 * j = 64 * (j + 1) by omega]
        rfl
    rw [e, List.drop_drop, show 64 + 64 * i = 64 * (i + 1) by omega]
    rfl
theorem shaM_text (s : List UInt8) : shaM s = outR (run8 ((textM s).length / 64) H8 (textM s)) := by
  unfold shaM
  congr 1
  have h1 : textM s = s ++ ([128] ++ List.replicate (zpad (s.length % 64)) 0 ++ be64 (s.length * 8) 8) := by unfold textM; simp only [List.append_assoc]
  have h2 := (runs_append ([128] ++ List.replicate (zpad (s.length % 64)) 0 ++ be64 (s.length * 8) 8) _ s H8 rfl).1
  have h3 : padM (left s) s.length = left s ++ ([128] ++ List.replicate (zpad (s.length % 64)) 0 ++ be64 (s.length * 8) 8) := by unfold padM; rw [left_length]; simp only [List.append_assoc]
  rw [h3, ← h2, ← h1]
  rfl
def outP (w : W8) (i : Nat) : Root := ⟨(List.range 32).map fun j => if j < i then byteOf w j else 0, by simp⟩
theorem outP_zero (w : W8) : outP w 0 = Root.zero := by
  apply Subtype.ext
  refine List.ext_getElem (by simp [outP, Root.zero]) fun j h1 h2 => ?_
  simp only [outP, Root.zero, List.getElem_map, List.getElem_range, List.getElem_replicate]
  rw [if_neg (by omega)]
theorem outP_succ (w : W8) {i : Nat} (h : i < 32) : outP w (i + 1) = (outP w i).set i (byteOf w i) := by
  apply Subtype.ext
  refine List.ext_getElem (by simp [outP, Root.set]) fun j h1 h2 => ?_
  simp only [outP, Root.set, List.getElem_set, List.getElem_map, List.getElem_range]
  by_cases e : i = j
  · subst e; rw [if_pos rfl, if_pos (by omega)]
  · rw [if_neg e]
    by_cases h3 : j < i
    · rw [if_pos h3, if_pos (by omega)]
    · rw [if_neg h3, if_neg (by omega)]
theorem fill8 : fillN 8 (H0.take 8) = H0 := rfl
theorem fill64 : fillN 64 (K64.take 64) = K64 := by rw [List.take_of_length_le (by rw [K64_len]; exact Nat.le_refl _), fillN_full K64_len]
theorem blk8_eq (h : W8) (s : List UInt8) {V : List UInt32} (hV : rnds (layM s) h.1 64 = V) : wC [h.1.getD 0 0 + V.getD 0 0, h.1.getD 1 0 + V.getD 1 0, h.1.getD 2 0 + V.getD 2 0, h.1.getD 3 0 + V.getD 3 0, h.1.getD 4 0 + V.getD 4 0, h.1.getD 5 0 + V.getD 5 0, h.1.getD 6 0 + V.getD 6 0, h.1.getD 7 0 + V.getD 7 0] = w8C (blk8 h s) := by
  unfold blk8
  rw [hV]
  rfl
theorem fill8_ok (v0 v1 v2 v3 v4 v5 v6 v7 : Int) : Instr.fill (fun i => some (i * 1, 1)) ([.int .u32 0, .int .u32 0, .int .u32 0, .int .u32 0, .int .u32 0, .int .u32 0, .int .u32 0, .int .u32 0] : List Value).toArray [(0, .int .u32 v0), (1, .int .u32 v1), (2, .int .u32 v2), (3, .int .u32 v3), (4, .int .u32 v4), (5, .int .u32 v5), (6, .int .u32 v6), (7, .int .u32 v7)] = some ([.int .u32 v0, .int .u32 v1, .int .u32 v2, .int .u32 v3, .int .u32 v4, .int .u32 v5, .int .u32 v6, .int .u32 v7] : List Value).toArray := by
  simp [Instr.fill, Value.cells]
end Go.SL

set_option linter.unusedVariables false
set_option linter.unusedSimpArgs false
namespace Go.SL
open Go.Proofs

set_option maxRecDepth 100000 in
set_option maxHeartbeats 1000000 in
theorem Less_calls {w0 w : World} {l : List HProp} (a b : Root) (hs : Sat w0 w (l))  :
  Calls Try.prog 106 #[.agg (rootC a).toArray, .agg (rootC b).toArray] w (Ret w0 fun v l' => v = .bool (Op.bytesLess a.1 b.1) ∧ l' = l) := by
 refine calls_enter Try.func106 rfl rfl rfl hs ?_
 refine Zj ?_; intro bx1
 refine Z2f ?_; intro bx2
 refine Zb ?_
 refine Z1u ?_
 refine rg_q (wn_none rfl) (op_slicea_all a1_24 rfl) rfl rfl ?_
 refine rg_q (wn_none rfl) (op_b2s sB_162 Try.underlying5 Try.underlying9 rfl (rds_root 1 rfl) (root_len _)) rfl rfl ?_
 refine rg_q (wn_none rfl) (op_slicea_all a1_24 rfl) rfl rfl ?_
 refine rg_q (wn_none rfl) (op_b2s sB_162 Try.underlying5 Try.underlying9 rfl (rds_root 0 rfl) (root_len _)) rfl rfl ?_
 refine rg_q (wn_none rfl) (op_slss rfl rfl) rfl rfl ?_
 refine Z2x ?_
 refine Z1a ?_
 refine cd_ret ?_
 exact px_ret1 rfl (v := .bool _) rfl (fun _ s => ((s.del 1).del 0)) ⟨rfl, rfl⟩

end Go.SL

set_option linter.unusedVariables false
set_option linter.unusedSimpArgs false
namespace Go.SL
open Go.Proofs

theorem cd_imp {P : Program} {w0 : World} {n : Nat} {Q : Exit → Act → World → Prop} {f : Fr} {c : Code} {l l' : List HProp} (hl : ∀ w, Sat w0 w l → Sat w0 w l') (h : CD P w0 n c Q f l') : CD P w0 n c Q f l := fun a w r s => h a w r (hl w s)
/-- weights: their block and rows -/
def WRaw (pw pt : Nat) (o sm be lf : List Int) : HProp := ex fun x : Option Addr × Nat × Option Addr × Nat × Option Addr × Nat × Option Addr × Nat => match x with | (a1, c1, a2, c2, a3, c3, a4, c4) => stars (Blk pw (.cells #[.pointer (some ⟨pt, 0, none⟩), .slice a1 o.length c1, .slice a2 sm.length c2, .slice a3 be.length c3, .slice a4 lf.length c4] 116 (0, 0)) :: Row 3 encI64 (.slice a1 o.length c1) o :: Row 3 encI64 (.slice a2 sm.length c2) sm :: Row 3 encI64 (.slice a3 be.length c3) be :: Row 3 encI64 (.slice a4 lf.length c4) lf :: [])
theorem Sat.wrawOpen {w0 w : World} {l : List HProp} {pw pt : Nat} {o sm be lf : List Int} (s : Sat w0 w (WRaw pw pt o sm be lf :: l)) : ∃ a1 c1 a2 c2 a3 c3 a4 c4, Sat w0 w (Blk pw (.cells #[.pointer (some ⟨pt, 0, none⟩), .slice a1 o.length c1, .slice a2 sm.length c2, .slice a3 be.length c3, .slice a4 lf.length c4] 116 (0, 0)) :: Row 3 encI64 (.slice a1 o.length c1) o :: Row 3 encI64 (.slice a2 sm.length c2) sm :: Row 3 encI64 (.slice a3 be.length c3) be :: Row 3 encI64 (.slice a4 lf.length c4) lf :: l) := by
 obtain ⟨⟨a1, c1, a2, c2, a3, c3, a4, c4⟩, s⟩ := Sat.ex_iff.1 s
 exact ⟨a1, c1, a2, c2, a3, c3, a4, c4, Sat.stars_iff.1 s⟩
theorem Sat.wrawMk {w0 w : World} {l : List HProp} {pw pt : Nat} {o sm be lf : List Int} {a1 a2 a3 a4 : Option Addr} {c1 c2 c3 c4 m1 m2 m3 m4 : Nat} (h1 : m1 = o.length) (h2 : m2 = sm.length) (h3 : m3 = be.length) (h4 : m4 = lf.length)
  (s : Sat w0 w (Blk pw (.cells #[.pointer (some ⟨pt, 0, none⟩), .slice a1 m1 c1, .slice a2 m2 c2, .slice a3 m3 c3, .slice a4 m4 c4] 116 (0, 0)) :: Row 3 encI64 (.slice a1 m1 c1) o :: Row 3 encI64 (.slice a2 m2 c2) sm :: Row 3 encI64 (.slice a3 m3 c3) be :: Row 3 encI64 (.slice a4 m4 c4) lf :: l)) : Sat w0 w (WRaw pw pt o sm be lf :: l) := by
 subst h1 h2 h3 h4
 exact Sat.ex_iff.2 ⟨(a1, c1, a2, c2, a3, c3, a4, c4), Sat.stars_iff.2 s⟩
theorem cd_wrawOpen {w0 : World} {n : Nat} {Q : Exit → Act → World → Prop} {f : Fr} {c : Code} {l : List HProp} {pw pt : Nat} {o sm be lf : List Int} (h : ∀ a1 c1 a2 c2 a3 c3 a4 c4, CD Try.prog w0 n c Q f (Blk pw (.cells #[.pointer (some ⟨pt, 0, none⟩), .slice a1 o.length c1, .slice a2 sm.length c2, .slice a3 be.length c3, .slice a4 lf.length c4] 116 (0, 0)) :: Row 3 encI64 (.slice a1 o.length c1) o :: Row 3 encI64 (.slice a2 sm.length c2) sm :: Row 3 encI64 (.slice a3 be.length c3) be :: Row 3 encI64 (.slice a4 lf.length c4) lf :: l)) : CD Try.prog w0 n c Q f (WRaw pw pt o sm be lf :: l) := fun a w r s =>
 let ⟨a1, c1, a2, c2, a3, c3, a4, c4, s'⟩ := s.wrawOpen
 h a1 c1 a2 c2 a3 c3 a4 c4 a w r s'
set_option maxRecDepth 100000 in
set_option maxHeartbeats 1000000 in
theorem ahead_calls {w0 w : World} {l : List HProp} (pw pt : Nat) (t : TreeS) (x1 x3 x4 : Value) (a2 : Option Addr) (c2 n2 : Nat) (sm : List Int) (i : Nat) (k : Int) (hs : Sat w0 w ((TreeObj pt t) :: (Blk pw (.cells #[.pointer (some ⟨pt, 0, none⟩), x1, .slice a2 n2 c2, x3, x4] 116 (0, 0))) :: (Row 3 encI64 (.slice a2 n2 c2) sm) :: l)) (hn : sm.length = n2) (hi : i < n2) (hk : k < (n2 : Int)) :
  Calls Try.prog 93 #[.pointer (some ⟨pw, 0, none⟩), .int .i64 (i : Int), .int .i64 k] w (Ret w0 fun v l' => v = .bool (aheadN t.nodes (oA sm) i k) ∧ l' = TreeObj pt t :: Blk pw (.cells #[.pointer (some ⟨pt, 0, none⟩), x1, .slice a2 n2 c2, x3, x4] 116 (0, 0)) :: Row 3 encI64 (.slice a2 n2 c2) sm :: l) := by
 refine calls_enter Try.func93 rfl rfl rfl hs ?_
 refine Z0 ?_
 refine Zb ?_
 refine Z7 ?_
 refine Z1u ?_
 refine Ze ?_
 refine Z53 ?_
 refine Z4k ?_
 refine rg_split 13 rfl (fun hb1 => ?_) (fun hb1 => ?_)
 ·have hp1 := hb1
  (try simp only [bn] at hp1)
  refine Z3n ?_
  refine Z3n ?_
  refine Z3n ?_
  refine Z3n ?_
  refine Z3n ?_
  refine Z3n ?_
  refine Z3n ?_
  refine Z9i ?_
  refine rg_q (wn_none rfl) (op_pick_t (v := .bool _) rfl hb1 rfl) rfl rfl ?_
  refine Z1a ?_
  refine Z5e ?_
  refine Z1u ?_
  refine Ze ?_
  refine Z53 ?_
  refine Z4k ?_
  refine rg_split 32 rfl (fun hb2 => ?_) (fun hb2 => ?_)
  ·have hp2 := hb2
   (try simp only [bn] at hp2)
   refine Z2j ?_
   refine Z2j ?_
   refine Z2j ?_
   refine Z2j ?_
   refine Z2j ?_
   refine Z2j ?_
   refine Z2j ?_
   refine Z8k ?_
   refine rg_q (wn_none rfl) (op_pick_t (v := .bool _) rfl hb2 rfl) rfl rfl ?_
   refine Z2x ?_
   refine Z1a ?_
   refine cd_ret ?_
   refine Z13 ?_
   exact px_ret1 rfl (v := .bool _) rfl (fun _ s => s) ⟨congrArg Value.bool (by unfold aheadN; rw [decide_eq_true (show k < 0 by omega)]; rfl), rfl⟩
  have hp2 := hb2
  (try simp only [bn] at hp2)
  omega
 have hp1 := hb1
 (try simp only [bn] at hp1)
 refine rg_q (wn_some rfl rfl rfl hb1 rfl) (op_move (v := .pointer _) rfl) rfl rfl ?_
 refine rg_q (wn_some rfl rfl rfl hb1 rfl) (op_nilck rfl) rfl rfl ?_
 refine rg_q (wn_some rfl rfl rfl hb1 rfl) (op_field fld_116_2 rfl) rfl rfl ?_
 refine rg_q (wn_some rfl rfl rfl hb1 rfl) (op_ld 1 sc_42 rfl rfl rfl) rfl rfl ?_
 refine rg_q (wn_some rfl rfl rfl hb1 rfl) (op_move (v := .int _ _) rfl) rfl rfl ?_
 refine rg_q (wn_some rfl rfl rfl hb1 rfl) (op_index i sB_42 rfl rfl rfl (rds_row 2 rfl rfl) (by omega) (by omega)) rfl rfl ?_
 refine rg_q (wn_some rfl rfl rfl hb1 rfl) (op_ldw sc_3 (rds_row 2 rfl rfl) rfl (by omega) rfl) rfl rfl ?_
 refine rg_q (wn_some rfl rfl rfl hb1 rfl) (op_move (v := .pointer _) rfl) rfl rfl ?_
 refine rg_q (wn_some rfl rfl rfl hb1 rfl) (op_nilck rfl) rfl rfl ?_
 refine rg_q (wn_some rfl rfl rfl hb1 rfl) (op_field fld_116_2 rfl) rfl rfl ?_
 refine rg_q (wn_some rfl rfl rfl hb1 rfl) (op_ld 1 sc_42 rfl rfl rfl) rfl rfl ?_
 refine rg_q (wn_some rfl rfl rfl hb1 rfl) (op_move (v := .int _ _) rfl) rfl rfl ?_
 refine rg_q (wn_some rfl rfl rfl hb1 rfl) (op_index k.toNat sB_42 rfl rfl (by omega) (rds_row 2 rfl rfl) (by omega) (by omega)) rfl rfl ?_
 refine rg_q (wn_some rfl rfl rfl hb1 rfl) (op_ldw sc_3 (rds_row 2 rfl rfl) rfl (by omega) rfl) rfl rfl ?_
 refine rg_q (wn_some rfl rfl rfl hb1 rfl) (op_ne rfl rfl) rfl rfl ?_
 refine rg_q (wn_none rfl) (op_pick_f (v := .bool _) rfl hb1 rfl) rfl rfl ?_
 refine Z1a ?_
 refine cd_cond rfl (fun hb3 => ?_) (fun hb3 => ?_)
 ·have hp3 := hb3
  (try simp only [bn] at hp3)
  refine Z1u ?_
  refine Ze ?_
  refine Z53 ?_
  refine Z4k ?_
  refine rg_split 32 rfl (fun hb4 => ?_) (fun hb4 => ?_)
  ·have hp4 := hb4
   (try simp only [bn] at hp4)
   omega
  have hp4 := hb4
  (try simp only [bn] at hp4)
  refine rg_q (wn_some rfl rfl rfl hb4 rfl) (op_move (v := .pointer _) rfl) rfl rfl ?_
  refine rg_q (wn_some rfl rfl rfl hb4 rfl) (op_nilck rfl) rfl rfl ?_
  refine rg_q (wn_some rfl rfl rfl hb4 rfl) (op_field fld_116_2 rfl) rfl rfl ?_
  refine rg_q (wn_some rfl rfl rfl hb4 rfl) (op_ld 1 sc_42 rfl rfl rfl) rfl rfl ?_
  refine rg_q (wn_some rfl rfl rfl hb4 rfl) (op_move (v := .int _ _) rfl) rfl rfl ?_
  refine rg_q (wn_some rfl rfl rfl hb4 rfl) (op_index i sB_42 rfl rfl rfl (rds_row 2 rfl rfl) (by omega) (by omega)) rfl rfl ?_
  refine rg_q (wn_some rfl rfl rfl hb4 rfl) (op_ldw sc_3 (rds_row 2 rfl rfl) rfl (by omega) rfl) rfl rfl ?_
  refine rg_q (wn_some rfl rfl rfl hb4 rfl) (op_move (v := .pointer _) rfl) rfl rfl ?_
  refine rg_q (wn_some rfl rfl rfl hb4 rfl) (op_nilck rfl) rfl rfl ?_
  refine rg_q (wn_some rfl rfl rfl hb4 rfl) (op_field fld_116_2 rfl) rfl rfl ?_
  refine rg_q (wn_some rfl rfl rfl hb4 rfl) (op_ld 1 sc_42 rfl rfl rfl) rfl rfl ?_
  refine rg_q (wn_some rfl rfl rfl hb4 rfl) (op_move (v := .int _ _) rfl) rfl rfl ?_
  refine rg_q (wn_some rfl rfl rfl hb4 rfl) (op_index k.toNat sB_42 rfl rfl (by omega) (rds_row 2 rfl rfl) (by omega) (by omega)) rfl rfl ?_
  refine rg_q (wn_some rfl rfl rfl hb4 rfl) (op_ldw sc_3 (rds_row 2 rfl rfl) rfl (by omega) rfl) rfl rfl ?_
  refine rg_q (wn_some rfl rfl rfl hb4 rfl) (op_gt rfl rfl) rfl rfl ?_
  refine rg_q (wn_none rfl) (op_pick_f (v := .bool _) rfl hb4 rfl) rfl rfl ?_
  refine Z2x ?_
  refine Z1a ?_
  refine cd_ret ?_
  refine Z13 ?_
  exact px_ret1 rfl (v := .bool _) rfl (fun _ s => s) ⟨congrArg Value.bool (by unfold aheadN beats; rw [decide_eq_false (show ¬ k < 0 by omega), oA_get (show i < sm.length by omega), oA_get (show k.toNat < sm.length by omega), decide_eq_false (show ¬ sm[i] = sm[k.toNat] by omega), Bool.false_and, Bool.or_false, Bool.false_or]), rfl⟩
 have hp3 := hb3
 (try simp only [bn] at hp3)
 refine Za ?_
 refine Z1v ?_
 refine oq (op_field fld_116_0 rfl) ?_
 refine oq (op_ld 1 sc_26 rfl rfl rfl) ?_
 refine Z4 ?_
 refine oi (os_call cb_24 rfl (fun w s => Node_calls _ _ _  s )) ?_; rintro _ _ ⟨rfl, rfl⟩; rw [TreeS.node_at]
 refine Z3r ?_
 refine Z3k ?_; intro bx1
 refine Z4a ?_
 refine Z1v ?_
 refine oq (op_field fld_116_0 rfl) ?_
 refine oq (op_ld 2 sc_26 rfl rfl rfl) ?_
 refine Z4 ?_
 refine Z9 ?_
 refine oi (os_call cb_24 rfl (fun w s => Node_calls _ _ _  s )) ?_; rintro _ _ ⟨rfl, rfl⟩; rw [show t.node k = t.nodes[k.toNat]? from by unfold TreeS.node; rw [if_pos (by omega)]]
 refine Z3r ?_
 refine Z3k ?_; intro bx2
 refine Z4a ?_
 refine Z0 ?_
 refine Z5u ?_
 refine Z8l ?_
 refine Z5u ?_
 refine oq (op_lda (L := rootC _) 2 ag_24 rfl rfl (nodeC_af0 _) (by simp [nodeC_len])) ?_
 refine oi (os_call cb_106 rfl (fun w s => Less_calls _ _  s )) ?_; rintro _ _ ⟨rfl, rfl⟩
 refine Zk ?_
 exact px_ret1 rfl (v := .bool _) rfl (fun _ s => ((s.del 2).del 0)) ⟨congrArg Value.bool (by unfold aheadN beats rtA; rw [decide_eq_false (show ¬ k < 0 by omega), oA_get (show i < sm.length by omega), oA_get (show k.toNat < sm.length by omega), decide_eq_true (show sm[i] = sm[k.toNat] by omega), decide_eq_false (show ¬ sm[k.toNat] < sm[i] by omega)]; rfl), rfl⟩
end Go.SL

set_option linter.unusedVariables false
set_option linter.unusedSimpArgs false
namespace Go.SL
open Go.Proofs

set_option maxRecDepth 100000 in
set_option maxHeartbeats 1000000 in
theorem grow_calls {w0 w : World} {l : List HProp} (pw pt : Nat) (t : TreeS) (o sm be lf : List Int) (hs : Sat w0 w ((TreeObj pt t) :: (WRaw pw pt o sm be lf) :: l)) (h1 : o.length ≤ t.nodes.length) (h2 : sm.length ≤ 256) (h3 : be.length ≤ 256) (h4 : lf.length ≤ 256) :
  Calls Try.prog 76 #[.pointer (some ⟨pw, 0, none⟩)] w (Ret w0 fun v l' => v = .tuple #[] ∧ l' = TreeObj pt t :: WRaw pw pt (growO t.nodes.length o) (sm ++ List.replicate (t.nodes.length - o.length) 0) (be ++ List.replicate (t.nodes.length - o.length) (-1)) (lf ++ List.replicate (t.nodes.length - o.length) (-1)) :: l) := by
 have hw := hs.treeWF
 have hm1 := hw.m1; have hm2 := hw.m2; have hle := hw.le; have hne := hw.ne; have hpa := hw.pa; have hnd := hw.nd
 obtain ⟨a1, c1, a2, c2, a3, c3, a4, c4, hs⟩ := (hs.pull 1).wrawOpen
 refine calls_enter Try.func76 rfl rfl rfl hs ?_
 refine cd_block ?_
 refine cd_pull4 ?_
 refine cd_pull4 ?_
 refine cd_pull4 ?_
 refine cd_pull4 ?_
 refine cd_pull4 ?_
 refine cd_loop2 (α := Nat × Option Addr × Nat × Option Addr × Nat × Option Addr × Nat × Option Addr × Nat) [(2, 48)] (fun x => []) (fun x => Blk pw (.cells #[.pointer (some ⟨pt, 0, none⟩), .slice x.2.1 (o ++ List.replicate x.1 (0)).length x.2.2.1, .slice x.2.2.2.1 (sm ++ List.replicate x.1 (0)).length x.2.2.2.2.1, .slice x.2.2.2.2.2.1 (be ++ List.replicate x.1 (-1)).length x.2.2.2.2.2.2.1, .slice x.2.2.2.2.2.2.2.1 (lf ++ List.replicate x.1 (-1)).length x.2.2.2.2.2.2.2.2] 116 (0, 0)) :: Row 3 encI64 (.slice x.2.1 (o ++ List.replicate x.1 (0)).length x.2.2.1) (o ++ List.replicate x.1 (0)) :: Row 3 encI64 (.slice x.2.2.2.1 (sm ++ List.replicate x.1 (0)).length x.2.2.2.2.1) (sm ++ List.replicate x.1 (0)) :: Row 3 encI64 (.slice x.2.2.2.2.2.1 (be ++ List.replicate x.1 (-1)).length x.2.2.2.2.2.2.1) (be ++ List.replicate x.1 (-1)) :: Row 3 encI64 (.slice x.2.2.2.2.2.2.2.1 (lf ++ List.replicate x.1 (-1)).length x.2.2.2.2.2.2.2.2) (lf ++ List.replicate x.1 (-1)) :: _) (fun x => x.1 ≤ (t.nodes.length - o.length)) (fun x => (t.nodes.length - o.length) - x.1) (0, a1, c1, a2, c2, a3, c3, a4, c4) (Nat.zero_le _) trivial (fun _ s => by (try dsimp only); simp only [List.replicate_zero, List.append_nil]; exact s) ?_
 rintro ⟨i, b1, d1, b2, d2, b3, d3, b4, d4⟩ hi f; (try dsimp only at hi ⊢)
 refine Z7 ?_
 refine cd_pull5 ?_
 refine Z7 ?_
 refine cd_draw (M := [_]) mx [9] (by kernel_rfl) ?_
 refine Z6 ?_
 refine rg_q (wn_none rfl) (op_field fld_116_1 rfl) rfl rfl ?_
 refine Z9j ?_
 refine rg_q (wn_none rfl) (op_len_slice Try.underlying42 rfl) rfl rfl ?_
 refine Z6 ?_
 refine Z8m ?_
 refine rg_q (wn_none rfl) (op_ld 0 sc_26 rfl rfl rfl) rfl rfl ?_
 refine rg_i (wn_none rfl) (os_call cb_29 rfl (fun w s => Len_calls _ _  s )) rfl rfl ?_; rintro _ _ ⟨rfl, rfl⟩; refine ⟨[_], rfl, ?_⟩
 refine Z53 ?_
 refine rg_nil_then1 ?_
 refine cd_cond rfl (fun hb1 => ?_) (fun hb1 => ?_)
 ·have hp1 := hb1
  (try simp only [bn] at hp1)
  have hi1 : i < (t.nodes.length - o.length) := by rw [List.length_append, List.length_replicate] at hp1; omega
  refine Za ?_
  refine cd_block ?_
  refine cd_cut (α := Option Addr × Nat × Option Addr × Nat) [(13, 30)] (fun y => []) (fun y => Blk pw (.cells #[.pointer (some ⟨pt, 0, none⟩), .slice y.1 (o ++ List.replicate (i + 1) (0)).length y.2.1, .slice y.2.2.1 (sm ++ List.replicate (i + 1) (0)).length y.2.2.2, .slice b3 (be ++ List.replicate i (-1)).length d3, .slice b4 (lf ++ List.replicate i (-1)).length d4] 116 (0, 0)) :: Row 3 encI64 (.slice y.1 (o ++ List.replicate (i + 1) (0)).length y.2.1) (o ++ List.replicate (i + 1) (0)) :: Row 3 encI64 (.slice y.2.2.1 (sm ++ List.replicate (i + 1) (0)).length y.2.2.2) (sm ++ List.replicate (i + 1) (0)) :: Row 3 encI64 (.slice b3 (be ++ List.replicate i (-1)).length d3) (be ++ List.replicate i (-1)) :: Row 3 encI64 (.slice b4 (lf ++ List.replicate i (-1)).length d4) (lf ++ List.replicate i (-1)) :: TreeObj pt t :: l) ?_ ?_
  ·
   refine cd_pull3 ?_
   refine cd_pull3 ?_
   refine cd_pull3 ?_
   refine cd_drawe (M := [_, _, _]) mx [5, 6, 7, 11, 12, 13, 16, 19] ?_
   refine Z22 ?_
   refine e_q 1 rfl (wn_none rfl) (op_move (v := .pointer _) rfl) ?_
   refine Z8n ?_
   refine e_q 3 rfl (wn_none rfl) (op_nilck rfl) ?_
   refine e_q 4 rfl (wn_none rfl) (op_field fld_116_1 rfl) ?_
   refine e_q 8 rfl (wn_none rfl) (op_move (v := .pointer _) rfl) ?_
   refine e_q 9 rfl (wn_none rfl) (op_nilck rfl) ?_
   refine e_q 10 rfl (wn_none rfl) (op_field fld_116_2 rfl) ?_
   refine et_4 (i1 := 5) (i2 := 6) (i3 := 11) (i4 := 12) (by kernel_rfl) ?_ ?_ ?_ ?_
   ·
    refine Z5v ?_
    refine et_3 (i1 := 6) (i2 := 11) (i3 := 12) (by kernel_rfl) ?_ ?_ ?_
    ·
     refine Z23 ?_; intro ao1
     refine et_3 (i1 := 7) (i2 := 11) (i3 := 12) (by kernel_rfl) ?_ ?_ ?_
     ·
      refine Z2y ?_; intro ao2 ac2
      refine et_2 (i1 := 11) (i2 := 12) (by kernel_rfl) ?_ ?_
      ·
       refine Z9k ?_
       refine Z24 ?_
       refine Z36 ?_; intro ao3 ao4 ac4
       refine Zh ?_
       refine px_cut (ao2, ac2, ao4, ac4) trivial ?_ (fun _ s => (by (try dsimp only); simp only [← rep_snoc]; exact ((((((((s.del 4).del 2).pull 3).pull 5).pull 5).pull 4).pull 5).pull 5)))
       exact Z3
      refine Z1d ?_; intro ao5
      refine Z32 ?_
      refine Z98 ?_; intro ao6 ac6
      refine Zh ?_
      refine px_cut (ao2, ac2, ao6, ac6) trivial ?_ (fun _ s => (by (try dsimp only); simp only [← rep_snoc]; exact ((((((((s.del 4).del 2).pull 3).pull 5).pull 5).pull 4).pull 5).pull 5)))
      exact Z3
     ·
      refine Z1h ?_
      refine Z40 ?_ ?_
      ·
       refine Z2y ?_; intro ao7 ac7
       refine Z24 ?_
       refine Z36 ?_; intro ao8 ao9 ac9
       refine Zh ?_
       refine px_cut (ao7, ac7, ao9, ac9) trivial ?_ (fun _ s => (by (try dsimp only); simp only [← rep_snoc]; exact ((((((((s.del 4).del 2).pull 3).pull 5).pull 5).pull 4).pull 5).pull 5)))
       exact Z3
      refine Z1n ?_; intro ao10
      refine Z1j ?_; intro ao11 ac11 ao12 ac12
      refine Zh ?_
      refine px_cut (ao11, ac11, ao12, ac12) trivial ?_ (fun _ s => (by (try dsimp only); simp only [← rep_snoc]; exact ((((((((s.del 4).del 3).pull 3).pull 5).pull 5).pull 4).pull 5).pull 5)))
      exact Z3
     refine Z1d ?_; intro ao13
     refine Z41 ?_ ?_
     ·
      refine Z6f ?_; intro ao14 ac14
      refine Z32 ?_
      refine Z6p ?_; intro ao15 ac15
      refine Zh ?_
      refine px_cut (ao14, ac14, ao15, ac15) trivial ?_ (fun _ s => (by (try dsimp only); simp only [← rep_snoc]; exact ((((((((s.del 4).del 3).pull 3).pull 5).pull 5).pull 4).pull 5).pull 5)))
      exact Z3
     refine Z3m ?_
     refine Z1j ?_; intro ao16 ac16 ao17 ac17
     refine Zh ?_
     refine px_cut (ao16, ac16, ao17, ac17) trivial ?_ (fun _ s => (by (try dsimp only); simp only [← rep_snoc]; exact ((((((((s.del 4).del 3).pull 3).pull 5).pull 5).pull 4).pull 5).pull 5)))
     exact Z3
    ·
     refine Z5v ?_
     refine et_2 (i1 := 6) (i2 := 12) (by kernel_rfl) ?_ ?_
     ·
      refine Z23 ?_; intro ao18
      refine Z40 ?_ ?_
      ·
       refine Z2y ?_; intro ao19 ac19
       refine Z24 ?_
       refine Z36 ?_; intro ao20 ao21 ac21
       refine Zh ?_
       refine px_cut (ao19, ac19, ao21, ac21) trivial ?_ (fun _ s => (by (try dsimp only); simp only [← rep_snoc]; exact ((((((((s.del 4).del 2).pull 3).pull 5).pull 5).pull 4).pull 5).pull 5)))
       exact Z3
      refine Z1n ?_; intro ao22
      refine Z1j ?_; intro ao23 ac23 ao24 ac24
      refine Zh ?_
      refine px_cut (ao23, ac23, ao24, ac24) trivial ?_ (fun _ s => (by (try dsimp only); simp only [← rep_snoc]; exact ((((((((s.del 4).del 3).pull 3).pull 5).pull 5).pull 4).pull 5).pull 5)))
      exact Z3
     refine Z23 ?_; intro ao25
     refine Z14 ?_
     refine Z1n ?_; intro ao26
     refine Z1k ?_; intro ao27 ac27 ao28 ac28
     refine Zh ?_
     refine px_cut (ao27, ac27, ao28, ac28) trivial ?_ (fun _ s => (by (try dsimp only); simp only [← rep_snoc]; exact ((((((((s.del 4).del 3).pull 3).pull 5).pull 5).pull 4).pull 5).pull 5)))
     exact Z3
    refine Z23 ?_; intro ao29
    refine et_2 (i1 := 6) (i2 := 11) (by kernel_rfl) ?_ ?_
    ·
     refine Z1d ?_; intro ao30
     refine Z41 ?_ ?_
     ·
      refine Z6g ?_; intro ao31 ac31
      refine Z32 ?_
      refine Z6q ?_; intro ao32 ac32
      refine Zh ?_
      refine px_cut (ao31, ac31, ao32, ac32) trivial ?_ (fun _ s => (by (try dsimp only); simp only [← rep_snoc]; exact ((((((((s.del 4).del 3).pull 3).pull 5).pull 5).pull 4).pull 5).pull 5)))
      exact Z3
     refine Z3m ?_
     refine Z1k ?_; intro ao33 ac33 ao34 ac34
     refine Zh ?_
     refine px_cut (ao33, ac33, ao34, ac34) trivial ?_ (fun _ s => (by (try dsimp only); simp only [← rep_snoc]; exact ((((((((s.del 4).del 3).pull 3).pull 5).pull 5).pull 4).pull 5).pull 5)))
     exact Z3
    refine Z1h ?_
    refine Z14 ?_
    refine Z1n ?_; intro ao35
    refine Z1k ?_; intro ao36 ac36 ao37 ac37
    refine Zh ?_
    refine px_cut (ao36, ac36, ao37, ac37) trivial ?_ (fun _ s => (by (try dsimp only); simp only [← rep_snoc]; exact ((((((((s.del 4).del 3).pull 3).pull 5).pull 5).pull 4).pull 5).pull 5)))
    exact Z3
   ·
    refine Z23 ?_; intro ao38
    refine et_3 (i1 := 5) (i2 := 11) (i3 := 12) (by kernel_rfl) ?_ ?_ ?_
    ·
     refine Z1h ?_
     refine et_3 (i1 := 7) (i2 := 11) (i3 := 12) (by kernel_rfl) ?_ ?_ ?_
     ·
      refine Z2y ?_; intro ao39 ac39
      refine et_2 (i1 := 11) (i2 := 12) (by kernel_rfl) ?_ ?_
      ·
       refine Z9k ?_
       refine Z24 ?_
       refine Z36 ?_; intro ao40 ao41 ac41
       refine Zh ?_
       refine px_cut (ao39, ac39, ao41, ac41) trivial ?_ (fun _ s => (by (try dsimp only); simp only [← rep_snoc]; exact ((((((((s.del 4).del 2).pull 3).pull 5).pull 5).pull 4).pull 5).pull 5)))
       exact Z3
      refine Z1d ?_; intro ao42
      refine Z32 ?_
      refine Z98 ?_; intro ao43 ac43
      refine Zh ?_
      refine px_cut (ao39, ac39, ao43, ac43) trivial ?_ (fun _ s => (by (try dsimp only); simp only [← rep_snoc]; exact ((((((((s.del 4).del 2).pull 3).pull 5).pull 5).pull 4).pull 5).pull 5)))
      exact Z3
     ·
      refine Z1h ?_
      refine Z40 ?_ ?_
      ·
       refine Z2y ?_; intro ao44 ac44
       refine Z24 ?_
       refine Z36 ?_; intro ao45 ao46 ac46
       refine Zh ?_
       refine px_cut (ao44, ac44, ao46, ac46) trivial ?_ (fun _ s => (by (try dsimp only); simp only [← rep_snoc]; exact ((((((((s.del 4).del 2).pull 3).pull 5).pull 5).pull 4).pull 5).pull 5)))
       exact Z3
      refine Z1n ?_; intro ao47
      refine Z1j ?_; intro ao48 ac48 ao49 ac49
      refine Zh ?_
      refine px_cut (ao48, ac48, ao49, ac49) trivial ?_ (fun _ s => (by (try dsimp only); simp only [← rep_snoc]; exact ((((((((s.del 4).del 3).pull 3).pull 5).pull 5).pull 4).pull 5).pull 5)))
      exact Z3
     refine Z1d ?_; intro ao50
     refine Z41 ?_ ?_
     ·
      refine Z6f ?_; intro ao51 ac51
      refine Z32 ?_
      refine Z6p ?_; intro ao52 ac52
      refine Zh ?_
      refine px_cut (ao51, ac51, ao52, ac52) trivial ?_ (fun _ s => (by (try dsimp only); simp only [← rep_snoc]; exact ((((((((s.del 4).del 3).pull 3).pull 5).pull 5).pull 4).pull 5).pull 5)))
      exact Z3
     refine Z3m ?_
     refine Z1j ?_; intro ao53 ac53 ao54 ac54
     refine Zh ?_
     refine px_cut (ao53, ac53, ao54, ac54) trivial ?_ (fun _ s => (by (try dsimp only); simp only [← rep_snoc]; exact ((((((((s.del 4).del 3).pull 3).pull 5).pull 5).pull 4).pull 5).pull 5)))
     exact Z3
    ·
     refine Z1h ?_
     refine et_2 (i1 := 5) (i2 := 12) (by kernel_rfl) ?_ ?_
     ·
      refine Z1h ?_
      refine Z40 ?_ ?_
      ·
       refine Z2y ?_; intro ao55 ac55
       refine Z24 ?_
       refine Z36 ?_; intro ao56 ao57 ac57
       refine Zh ?_
       refine px_cut (ao55, ac55, ao57, ac57) trivial ?_ (fun _ s => (by (try dsimp only); simp only [← rep_snoc]; exact ((((((((s.del 4).del 2).pull 3).pull 5).pull 5).pull 4).pull 5).pull 5)))
       exact Z3
      refine Z1n ?_; intro ao58
      refine Z1j ?_; intro ao59 ac59 ao60 ac60
      refine Zh ?_
      refine px_cut (ao59, ac59, ao60, ac60) trivial ?_ (fun _ s => (by (try dsimp only); simp only [← rep_snoc]; exact ((((((((s.del 4).del 3).pull 3).pull 5).pull 5).pull 4).pull 5).pull 5)))
      exact Z3
     refine Z1d ?_; intro ao61
     refine Z4b ?_
     refine Z1j ?_; intro ao62 ac62 ao63 ac63
     refine Zh ?_
     refine px_cut (ao62, ac62, ao63, ac63) trivial ?_ (fun _ s => (by (try dsimp only); simp only [← rep_snoc]; exact ((((((((s.del 4).del 3).pull 3).pull 5).pull 5).pull 4).pull 5).pull 5)))
     exact Z3
    refine Z1d ?_; intro ao64
    refine et_2 (i1 := 5) (i2 := 11) (by kernel_rfl) ?_ ?_
    ·
     refine Z5j ?_
     refine Z41 ?_ ?_
     ·
      refine Z6f ?_; intro ao65 ac65
      refine Z32 ?_
      refine Z6p ?_; intro ao66 ac66
      refine Zh ?_
      refine px_cut (ao65, ac65, ao66, ac66) trivial ?_ (fun _ s => (by (try dsimp only); simp only [← rep_snoc]; exact ((((((((s.del 4).del 3).pull 3).pull 5).pull 5).pull 4).pull 5).pull 5)))
      exact Z3
     refine Z3m ?_
     refine Z1j ?_; intro ao67 ac67 ao68 ac68
     refine Zh ?_
     refine px_cut (ao67, ac67, ao68, ac68) trivial ?_ (fun _ s => (by (try dsimp only); simp only [← rep_snoc]; exact ((((((((s.del 4).del 3).pull 3).pull 5).pull 5).pull 4).pull 5).pull 5)))
     exact Z3
    refine Z5j ?_
    refine Z4b ?_
    refine Z1j ?_; intro ao69 ac69 ao70 ac70
    refine Zh ?_
    refine px_cut (ao69, ac69, ao70, ac70) trivial ?_ (fun _ s => (by (try dsimp only); simp only [← rep_snoc]; exact ((((((((s.del 4).del 3).pull 3).pull 5).pull 5).pull 4).pull 5).pull 5)))
    exact Z3
   ·
    refine Z5v ?_
    refine et_3 (i1 := 5) (i2 := 6) (i3 := 12) (by kernel_rfl) ?_ ?_ ?_
    ·
     refine Z5v ?_
     refine et_2 (i1 := 6) (i2 := 12) (by kernel_rfl) ?_ ?_
     ·
      refine Z23 ?_; intro ao71
      refine Z40 ?_ ?_
      ·
       refine Z2y ?_; intro ao72 ac72
       refine Z24 ?_
       refine Z36 ?_; intro ao73 ao74 ac74
       refine Zh ?_
       refine px_cut (ao72, ac72, ao74, ac74) trivial ?_ (fun _ s => (by (try dsimp only); simp only [← rep_snoc]; exact ((((((((s.del 4).del 2).pull 3).pull 5).pull 5).pull 4).pull 5).pull 5)))
       exact Z3
      refine Z1n ?_; intro ao75
      refine Z1j ?_; intro ao76 ac76 ao77 ac77
      refine Zh ?_
      refine px_cut (ao76, ac76, ao77, ac77) trivial ?_ (fun _ s => (by (try dsimp only); simp only [← rep_snoc]; exact ((((((((s.del 4).del 3).pull 3).pull 5).pull 5).pull 4).pull 5).pull 5)))
      exact Z3
     refine Z23 ?_; intro ao78
     refine Z14 ?_
     refine Z1n ?_; intro ao79
     refine Z1k ?_; intro ao80 ac80 ao81 ac81
     refine Zh ?_
     refine px_cut (ao80, ac80, ao81, ac81) trivial ?_ (fun _ s => (by (try dsimp only); simp only [← rep_snoc]; exact ((((((((s.del 4).del 3).pull 3).pull 5).pull 5).pull 4).pull 5).pull 5)))
     exact Z3
    ·
     refine Z23 ?_; intro ao82
     refine et_2 (i1 := 5) (i2 := 12) (by kernel_rfl) ?_ ?_
     ·
      refine Z1h ?_
      refine Z40 ?_ ?_
      ·
       refine Z2y ?_; intro ao83 ac83
       refine Z24 ?_
       refine Z36 ?_; intro ao84 ao85 ac85
       refine Zh ?_
       refine px_cut (ao83, ac83, ao85, ac85) trivial ?_ (fun _ s => (by (try dsimp only); simp only [← rep_snoc]; exact ((((((((s.del 4).del 2).pull 3).pull 5).pull 5).pull 4).pull 5).pull 5)))
       exact Z3
      refine Z1n ?_; intro ao86
      refine Z1j ?_; intro ao87 ac87 ao88 ac88
      refine Zh ?_
      refine px_cut (ao87, ac87, ao88, ac88) trivial ?_ (fun _ s => (by (try dsimp only); simp only [← rep_snoc]; exact ((((((((s.del 4).del 3).pull 3).pull 5).pull 5).pull 4).pull 5).pull 5)))
      exact Z3
     refine Z1d ?_; intro ao89
     refine Z4b ?_
     refine Z1j ?_; intro ao90 ac90 ao91 ac91
     refine Zh ?_
     refine px_cut (ao90, ac90, ao91, ac91) trivial ?_ (fun _ s => (by (try dsimp only); simp only [← rep_snoc]; exact ((((((((s.del 4).del 3).pull 3).pull 5).pull 5).pull 4).pull 5).pull 5)))
     exact Z3
    refine Z23 ?_; intro ao92
    refine et_2 (i1 := 5) (i2 := 6) (by kernel_rfl) ?_ ?_
    ·
     refine Z1h ?_
     refine Z14 ?_
     refine Z1n ?_; intro ao93
     refine Z1k ?_; intro ao94 ac94 ao95 ac95
     refine Zh ?_
     refine px_cut (ao94, ac94, ao95, ac95) trivial ?_ (fun _ s => (by (try dsimp only); simp only [← rep_snoc]; exact ((((((((s.del 4).del 3).pull 3).pull 5).pull 5).pull 4).pull 5).pull 5)))
     exact Z3
    refine Z1d ?_; intro ao96
    refine Z4b ?_
    refine Z1k ?_; intro ao97 ac97 ao98 ac98
    refine Zh ?_
    refine px_cut (ao97, ac97, ao98, ac98) trivial ?_ (fun _ s => (by (try dsimp only); simp only [← rep_snoc]; exact ((((((((s.del 4).del 3).pull 3).pull 5).pull 5).pull 4).pull 5).pull 5)))
    exact Z3
   refine Z23 ?_; intro ao99
   refine et_3 (i1 := 5) (i2 := 6) (i3 := 11) (by kernel_rfl) ?_ ?_ ?_
   ·
    refine Z1h ?_
    refine et_2 (i1 := 6) (i2 := 11) (by kernel_rfl) ?_ ?_
    ·
     refine Z1d ?_; intro ao100
     refine Z41 ?_ ?_
     ·
      refine Z6g ?_; intro ao101 ac101
      refine Z32 ?_
      refine Z6q ?_; intro ao102 ac102
      refine Zh ?_
      refine px_cut (ao101, ac101, ao102, ac102) trivial ?_ (fun _ s => (by (try dsimp only); simp only [← rep_snoc]; exact ((((((((s.del 4).del 3).pull 3).pull 5).pull 5).pull 4).pull 5).pull 5)))
      exact Z3
     refine Z3m ?_
     refine Z1k ?_; intro ao103 ac103 ao104 ac104
     refine Zh ?_
     refine px_cut (ao103, ac103, ao104, ac104) trivial ?_ (fun _ s => (by (try dsimp only); simp only [← rep_snoc]; exact ((((((((s.del 4).del 3).pull 3).pull 5).pull 5).pull 4).pull 5).pull 5)))
     exact Z3
    refine Z1h ?_
    refine Z14 ?_
    refine Z1n ?_; intro ao105
    refine Z1k ?_; intro ao106 ac106 ao107 ac107
    refine Zh ?_
    refine px_cut (ao106, ac106, ao107, ac107) trivial ?_ (fun _ s => (by (try dsimp only); simp only [← rep_snoc]; exact ((((((((s.del 4).del 3).pull 3).pull 5).pull 5).pull 4).pull 5).pull 5)))
    exact Z3
   ·
    refine Z1d ?_; intro ao108
    refine et_2 (i1 := 5) (i2 := 11) (by kernel_rfl) ?_ ?_
    ·
     refine Z5j ?_
     refine Z41 ?_ ?_
     ·
      refine Z6g ?_; intro ao109 ac109
      refine Z32 ?_
      refine Z6q ?_; intro ao110 ac110
      refine Zh ?_
      refine px_cut (ao109, ac109, ao110, ac110) trivial ?_ (fun _ s => (by (try dsimp only); simp only [← rep_snoc]; exact ((((((((s.del 4).del 3).pull 3).pull 5).pull 5).pull 4).pull 5).pull 5)))
      exact Z3
     refine Z3m ?_
     refine Z1k ?_; intro ao111 ac111 ao112 ac112
     refine Zh ?_
     refine px_cut (ao111, ac111, ao112, ac112) trivial ?_ (fun _ s => (by (try dsimp only); simp only [← rep_snoc]; exact ((((((((s.del 4).del 3).pull 3).pull 5).pull 5).pull 4).pull 5).pull 5)))
     exact Z3
    refine Z5j ?_
    refine Z4b ?_
    refine Z1k ?_; intro ao113 ac113 ao114 ac114
    refine Zh ?_
    refine px_cut (ao113, ac113, ao114, ac114) trivial ?_ (fun _ s => (by (try dsimp only); simp only [← rep_snoc]; exact ((((((((s.del 4).del 3).pull 3).pull 5).pull 5).pull 4).pull 5).pull 5)))
    exact Z3
   refine Z1h ?_
   refine et_2 (i1 := 5) (i2 := 6) (by kernel_rfl) ?_ ?_
   ·
    refine Z1h ?_
    refine Z14 ?_
    refine Z1n ?_; intro ao115
    refine Z1k ?_; intro ao116 ac116 ao117 ac117
    refine Zh ?_
    refine px_cut (ao116, ac116, ao117, ac117) trivial ?_ (fun _ s => (by (try dsimp only); simp only [← rep_snoc]; exact ((((((((s.del 4).del 3).pull 3).pull 5).pull 5).pull 4).pull 5).pull 5)))
    exact Z3
   refine Z1d ?_; intro ao118
   refine Z4b ?_
   refine Z1k ?_; intro ao119 ac119 ao120 ac120
   refine Zh ?_
   refine px_cut (ao119, ac119, ao120, ac120) trivial ?_ (fun _ s => (by (try dsimp only); simp only [← rep_snoc]; exact ((((((((s.del 4).del 3).pull 3).pull 5).pull 5).pull 4).pull 5).pull 5)))
   exact Z3
  rintro ⟨e1, g1, e2, g2⟩ f; (try dsimp only)
  refine cd_pull4 ?_
  refine cd_pull4 ?_
  refine cd_pull2 ?_
  refine cd_drawe (M := [_, _, _]) mx [5, 6, 7, 11, 12, 13, 16, 19] ?_
  refine Z22 ?_
  refine e_q 1 rfl (wn_none rfl) (op_move (v := .pointer _) rfl) ?_
  refine Z8n ?_
  refine e_q 3 rfl (wn_none rfl) (op_nilck rfl) ?_
  refine e_q 4 rfl (wn_none rfl) (op_field fld_116_3 rfl) ?_
  refine e_q 8 rfl (wn_none rfl) (op_move (v := .pointer _) rfl) ?_
  refine e_q 9 rfl (wn_none rfl) (op_nilck rfl) ?_
  refine e_q 10 rfl (wn_none rfl) (op_field fld_116_4 rfl) ?_
  refine et_4 (i1 := 5) (i2 := 6) (i3 := 11) (i4 := 12) (by kernel_rfl) ?_ ?_ ?_ ?_
  ·
   refine Z5v ?_
   refine et_3 (i1 := 6) (i2 := 11) (i3 := 12) (by kernel_rfl) ?_ ?_ ?_
   ·
    refine Z23 ?_; intro ao121
    refine et_3 (i1 := 7) (i2 := 11) (i3 := 12) (by kernel_rfl) ?_ ?_ ?_
    ·
     refine Z2y ?_; intro ao122 ac122
     refine et_2 (i1 := 11) (i2 := 12) (by kernel_rfl) ?_ ?_
     ·
      refine Z9k ?_
      refine Z24 ?_
      refine Z36 ?_; intro ao123 ao124 ac124
      refine Zi ?_
      refine px_loop2 (i + 1, e1, g1, e2, g2, ao122, ac122, ao124, ac124) (by dsimp only; omega) (by (try dsimp only); omega) trivial ?_ (fun _ s => (by (try dsimp only); simp only [← rep_snoc be, ← rep_snoc lf]; exact ((((((((s.del 4).del 2).pull 5).pull 2).pull 3).pull 5).pull 5).pull 5)))
      exact Z2
     refine Z1d ?_; intro ao125
     refine Z32 ?_
     refine Z98 ?_; intro ao126 ac126
     refine Zi ?_
     refine px_loop2 (i + 1, e1, g1, e2, g2, ao122, ac122, ao126, ac126) (by dsimp only; omega) (by (try dsimp only); omega) trivial ?_ (fun _ s => (by (try dsimp only); simp only [← rep_snoc be, ← rep_snoc lf]; exact ((((((((s.del 4).del 2).pull 5).pull 2).pull 3).pull 5).pull 5).pull 5)))
     exact Z2
    ·
     refine Z1h ?_
     refine Z40 ?_ ?_
     ·
      refine Z2y ?_; intro ao127 ac127
      refine Z24 ?_
      refine Z36 ?_; intro ao128 ao129 ac129
      refine Zi ?_
      refine px_loop2 (i + 1, e1, g1, e2, g2, ao127, ac127, ao129, ac129) (by dsimp only; omega) (by (try dsimp only); omega) trivial ?_ (fun _ s => (by (try dsimp only); simp only [← rep_snoc be, ← rep_snoc lf]; exact ((((((((s.del 4).del 2).pull 5).pull 2).pull 3).pull 5).pull 5).pull 5)))
      exact Z2
     refine Z1n ?_; intro ao130
     refine Z1j ?_; intro ao131 ac131 ao132 ac132
     refine Zi ?_
     refine px_loop2 (i + 1, e1, g1, e2, g2, ao131, ac131, ao132, ac132) (by dsimp only; omega) (by (try dsimp only); omega) trivial ?_ (fun _ s => (by (try dsimp only); simp only [← rep_snoc be, ← rep_snoc lf]; exact ((((((((s.del 4).del 3).pull 5).pull 2).pull 3).pull 5).pull 5).pull 5)))
     exact Z2
    refine Z1d ?_; intro ao133
    refine Z41 ?_ ?_
    ·
     refine Z6f ?_; intro ao134 ac134
     refine Z32 ?_
     refine Z6p ?_; intro ao135 ac135
     refine Zi ?_
     refine px_loop2 (i + 1, e1, g1, e2, g2, ao134, ac134, ao135, ac135) (by dsimp only; omega) (by (try dsimp only); omega) trivial ?_ (fun _ s => (by (try dsimp only); simp only [← rep_snoc be, ← rep_snoc lf]; exact ((((((((s.del 4).del 3).pull 5).pull 2).pull 3).pull 5).pull 5).pull 5)))
     exact Z2
    refine Z3m ?_
    refine Z1j ?_; intro ao136 ac136 ao137 ac137
    refine Zi ?_
    refine px_loop2 (i + 1, e1, g1, e2, g2, ao136, ac136, ao137, ac137) (by dsimp only; omega) (by (try dsimp only); omega) trivial ?_ (fun _ s => (by (try dsimp only); simp only [← rep_snoc be, ← rep_snoc lf]; exact ((((((((s.del 4).del 3).pull 5).pull 2).pull 3).pull 5).pull 5).pull 5)))
    exact Z2
   ·
    refine Z5v ?_
    refine et_2 (i1 := 6) (i2 := 12) (by kernel_rfl) ?_ ?_
    ·
     refine Z23 ?_; intro ao138
     refine Z40 ?_ ?_
     ·
      refine Z2y ?_; intro ao139 ac139
      refine Z24 ?_
      refine Z36 ?_; intro ao140 ao141 ac141
      refine Zi ?_
      refine px_loop2 (i + 1, e1, g1, e2, g2, ao139, ac139, ao141, ac141) (by dsimp only; omega) (by (try dsimp only); omega) trivial ?_ (fun _ s => (by (try dsimp only); simp only [← rep_snoc be, ← rep_snoc lf]; exact ((((((((s.del 4).del 2).pull 5).pull 2).pull 3).pull 5).pull 5).pull 5)))
      exact Z2
     refine Z1n ?_; intro ao142
     refine Z1j ?_; intro ao143 ac143 ao144 ac144
     refine Zi ?_
     refine px_loop2 (i + 1, e1, g1, e2, g2, ao143, ac143, ao144, ac144) (by dsimp only; omega) (by (try dsimp only); omega) trivial ?_ (fun _ s => (by (try dsimp only); simp only [← rep_snoc be, ← rep_snoc lf]; exact ((((((((s.del 4).del 3).pull 5).pull 2).pull 3).pull 5).pull 5).pull 5)))
     exact Z2
    refine Z23 ?_; intro ao145
    refine Z14 ?_
    refine Z1n ?_; intro ao146
    refine Z1k ?_; intro ao147 ac147 ao148 ac148
    refine Zi ?_
    refine px_loop2 (i + 1, e1, g1, e2, g2, ao147, ac147, ao148, ac148) (by dsimp only; omega) (by (try dsimp only); omega) trivial ?_ (fun _ s => (by (try dsimp only); simp only [← rep_snoc be, ← rep_snoc lf]; exact ((((((((s.del 4).del 3).pull 5).pull 2).pull 3).pull 5).pull 5).pull 5)))
    exact Z2
   refine Z23 ?_; intro ao149
   refine et_2 (i1 := 6) (i2 := 11) (by kernel_rfl) ?_ ?_
   ·
    refine Z1d ?_; intro ao150
    refine Z41 ?_ ?_
    ·
     refine Z6g ?_; intro ao151 ac151
     refine Z32 ?_
     refine Z6q ?_; intro ao152 ac152
     refine Zi ?_
     refine px_loop2 (i + 1, e1, g1, e2, g2, ao151, ac151, ao152, ac152) (by dsimp only; omega) (by (try dsimp only); omega) trivial ?_ (fun _ s => (by (try dsimp only); simp only [← rep_snoc be, ← rep_snoc lf]; exact ((((((((s.del 4).del 3).pull 5).pull 2).pull 3).pull 5).pull 5).pull 5)))
     exact Z2
    refine Z3m ?_
    refine Z1k ?_; intro ao153 ac153 ao154 ac154
    refine Zi ?_
    refine px_loop2 (i + 1, e1, g1, e2, g2, ao153, ac153, ao154, ac154) (by dsimp only; omega) (by (try dsimp only); omega) trivial ?_ (fun _ s => (by (try dsimp only); simp only [← rep_snoc be, ← rep_snoc lf]; exact ((((((((s.del 4).del 3).pull 5).pull 2).pull 3).pull 5).pull 5).pull 5)))
    exact Z2
   refine Z1h ?_
   refine Z14 ?_
   refine Z1n ?_; intro ao155
   refine Z1k ?_; intro ao156 ac156 ao157 ac157
   refine Zi ?_
   refine px_loop2 (i + 1, e1, g1, e2, g2, ao156, ac156, ao157, ac157) (by dsimp only; omega) (by (try dsimp only); omega) trivial ?_ (fun _ s => (by (try dsimp only); simp only [← rep_snoc be, ← rep_snoc lf]; exact ((((((((s.del 4).del 3).pull 5).pull 2).pull 3).pull 5).pull 5).pull 5)))
   exact Z2
  ·
   refine Z23 ?_; intro ao158
   refine et_3 (i1 := 5) (i2 := 11) (i3 := 12) (by kernel_rfl) ?_ ?_ ?_
   ·
    refine Z1h ?_
    refine et_3 (i1 := 7) (i2 := 11) (i3 := 12) (by kernel_rfl) ?_ ?_ ?_
    ·
     refine Z2y ?_; intro ao159 ac159
     refine et_2 (i1 := 11) (i2 := 12) (by kernel_rfl) ?_ ?_
     ·
      refine Z9k ?_
      refine Z24 ?_
      refine Z36 ?_; intro ao160 ao161 ac161
      refine Zi ?_
      refine px_loop2 (i + 1, e1, g1, e2, g2, ao159, ac159, ao161, ac161) (by dsimp only; omega) (by (try dsimp only); omega) trivial ?_ (fun _ s => (by (try dsimp only); simp only [← rep_snoc be, ← rep_snoc lf]; exact ((((((((s.del 4).del 2).pull 5).pull 2).pull 3).pull 5).pull 5).pull 5)))
      exact Z2
     refine Z1d ?_; intro ao162
     refine Z32 ?_
     refine Z98 ?_; intro ao163 ac163
     refine Zi ?_
     refine px_loop2 (i + 1, e1, g1, e2, g2, ao159, ac159, ao163, ac163) (by dsimp only; omega) (by (try dsimp only); omega) trivial ?_ (fun _ s => (by (try dsimp only); simp only [← rep_snoc be, ← rep_snoc lf]; exact ((((((((s.del 4).del 2).pull 5).pull 2).pull 3).pull 5).pull 5).pull 5)))
     exact Z2
    ·
     refine Z1h ?_
     refine Z40 ?_ ?_
     ·
      refine Z2y ?_; intro ao164 ac164
      refine Z24 ?_
      refine Z36 ?_; intro ao165 ao166 ac166
      refine Zi ?_
      refine px_loop2 (i + 1, e1, g1, e2, g2, ao164, ac164, ao166, ac166) (by dsimp only; omega) (by (try dsimp only); omega) trivial ?_ (fun _ s => (by (try dsimp only); simp only [← rep_snoc be, ← rep_snoc lf]; exact ((((((((s.del 4).del 2).pull 5).pull 2).pull 3).pull 5).pull 5).pull 5)))
      exact Z2
     refine Z1n ?_; intro ao167
     refine Z1j ?_; intro ao168 ac168 ao169 ac169
     refine Zi ?_
     refine px_loop2 (i + 1, e1, g1, e2, g2, ao168, ac168, ao169, ac169) (by dsimp only; omega) (by (try dsimp only); omega) trivial ?_ (fun _ s => (by (try dsimp only); simp only [← rep_snoc be, ← rep_snoc lf]; exact ((((((((s.del 4).del 3).pull 5).pull 2).pull 3).pull 5).pull 5).pull 5)))
     exact Z2
    refine Z1d ?_; intro ao170
    refine Z41 ?_ ?_
    ·
     refine Z6f ?_; intro ao171 ac171
     refine Z32 ?_
     refine Z6p ?_; intro ao172 ac172
     refine Zi ?_
     refine px_loop2 (i + 1, e1, g1, e2, g2, ao171, ac171, ao172, ac172) (by dsimp only; omega) (by (try dsimp only); omega) trivial ?_ (fun _ s => (by (try dsimp only); simp only [← rep_snoc be, ← rep_snoc lf]; exact ((((((((s.del 4).del 3).pull 5).pull 2).pull 3).pull 5).pull 5).pull 5)))
     exact Z2
    refine Z3m ?_
    refine Z1j ?_; intro ao173 ac173 ao174 ac174
    refine Zi ?_
    refine px_loop2 (i + 1, e1, g1, e2, g2, ao173, ac173, ao174, ac174) (by dsimp only; omega) (by (try dsimp only); omega) trivial ?_ (fun _ s => (by (try dsimp only); simp only [← rep_snoc be, ← rep_snoc lf]; exact ((((((((s.del 4).del 3).pull 5).pull 2).pull 3).pull 5).pull 5).pull 5)))
    exact Z2
   ·
    refine Z1h ?_
    refine et_2 (i1 := 5) (i2 := 12) (by kernel_rfl) ?_ ?_
    ·
     refine Z1h ?_
     refine Z40 ?_ ?_
     ·
      refine Z2y ?_; intro ao175 ac175
      refine Z24 ?_
      refine Z36 ?_; intro ao176 ao177 ac177
      refine Zi ?_
      refine px_loop2 (i + 1, e1, g1, e2, g2, ao175, ac175, ao177, ac177) (by dsimp only; omega) (by (try dsimp only); omega) trivial ?_ (fun _ s => (by (try dsimp only); simp only [← rep_snoc be, ← rep_snoc lf]; exact ((((((((s.del 4).del 2).pull 5).pull 2).pull 3).pull 5).pull 5).pull 5)))
      exact Z2
     refine Z1n ?_; intro ao178
     refine Z1j ?_; intro ao179 ac179 ao180 ac180
     refine Zi ?_
     refine px_loop2 (i + 1, e1, g1, e2, g2, ao179, ac179, ao180, ac180) (by dsimp only; omega) (by (try dsimp only); omega) trivial ?_ (fun _ s => (by (try dsimp only); simp only [← rep_snoc be, ← rep_snoc lf]; exact ((((((((s.del 4).del 3).pull 5).pull 2).pull 3).pull 5).pull 5).pull 5)))
     exact Z2
    refine Z1d ?_; intro ao181
    refine Z4b ?_
    refine Z1j ?_; intro ao182 ac182 ao183 ac183
    refine Zi ?_
    refine px_loop2 (i + 1, e1, g1, e2, g2, ao182, ac182, ao183, ac183) (by dsimp only; omega) (by (try dsimp only); omega) trivial ?_ (fun _ s => (by (try dsimp only); simp only [← rep_snoc be, ← rep_snoc lf]; exact ((((((((s.del 4).del 3).pull 5).pull 2).pull 3).pull 5).pull 5).pull 5)))
    exact Z2
   refine Z1d ?_; intro ao184
   refine et_2 (i1 := 5) (i2 := 11) (by kernel_rfl) ?_ ?_
   ·
    refine Z5j ?_
    refine Z41 ?_ ?_
    ·
     refine Z6f ?_; intro ao185 ac185
     refine Z32 ?_
     refine Z6p ?_; intro ao186 ac186
     refine Zi ?_
     refine px_loop2 (i + 1, e1, g1, e2, g2, ao185, ac185, ao186, ac186) (by dsimp only; omega) (by (try dsimp only); omega) trivial ?_ (fun _ s => (by (try dsimp only); simp only [← rep_snoc be, ← rep_snoc lf]; exact ((((((((s.del 4).del 3).pull 5).pull 2).pull 3).pull 5).pull 5).pull 5)))
     exact Z2
    refine Z3m ?_
    refine Z1j ?_; intro ao187 ac187 ao188 ac188
    refine Zi ?_
    refine px_loop2 (i + 1, e1, g1, e2, g2, ao187, ac187, ao188, ac188) (by dsimp only; omega) (by (try dsimp only); omega) trivial ?_ (fun _ s => (by (try dsimp only); simp only [← rep_snoc be, ← rep_snoc lf]; exact ((((((((s.del 4).del 3).pull 5).pull 2).pull 3).pull 5).pull 5).pull 5)))
    exact Z2
   refine Z5j ?_
   refine Z4b ?_
   refine Z1j ?_; intro ao189 ac189 ao190 ac190
   refine Zi ?_
   refine px_loop2 (i + 1, e1, g1, e2, g2, ao189, ac189, ao190, ac190) (by dsimp only; omega) (by (try dsimp only); omega) trivial ?_ (fun _ s => (by (try dsimp only); simp only [← rep_snoc be, ← rep_snoc lf]; exact ((((((((s.del 4).del 3).pull 5).pull 2).pull 3).pull 5).pull 5).pull 5)))
   exact Z2
  ·
   refine Z5v ?_
   refine et_3 (i1 := 5) (i2 := 6) (i3 := 12) (by kernel_rfl) ?_ ?_ ?_
   ·
    refine Z5v ?_
    refine et_2 (i1 := 6) (i2 := 12) (by kernel_rfl) ?_ ?_
    ·
     refine Z23 ?_; intro ao191
     refine Z40 ?_ ?_
     ·
      refine Z2y ?_; intro ao192 ac192
      refine Z24 ?_
      refine Z36 ?_; intro ao193 ao194 ac194
      refine Zi ?_
      refine px_loop2 (i + 1, e1, g1, e2, g2, ao192, ac192, ao194, ac194) (by dsimp only; omega) (by (try dsimp only); omega) trivial ?_ (fun _ s => (by (try dsimp only); simp only [← rep_snoc be, ← rep_snoc lf]; exact ((((((((s.del 4).del 2).pull 5).pull 2).pull 3).pull 5).pull 5).pull 5)))
      exact Z2
     refine Z1n ?_; intro ao195
     refine Z1j ?_; intro ao196 ac196 ao197 ac197
     refine Zi ?_
     refine px_loop2 (i + 1, e1, g1, e2, g2, ao196, ac196, ao197, ac197) (by dsimp only; omega) (by (try dsimp only); omega) trivial ?_ (fun _ s => (by (try dsimp only); simp only [← rep_snoc be, ← rep_snoc lf]; exact ((((((((s.del 4).del 3).pull 5).pull 2).pull 3).pull 5).pull 5).pull 5)))
     exact Z2
    refine Z23 ?_; intro ao198
    refine Z14 ?_
    refine Z1n ?_; intro ao199
    refine Z1k ?_; intro ao200 ac200 ao201 ac201
    refine Zi ?_
    refine px_loop2 (i + 1, e1, g1, e2, g2, ao200, ac200, ao201, ac201) (by dsimp only; omega) (by (try dsimp only); omega) trivial ?_ (fun _ s => (by (try dsimp only); simp only [← rep_snoc be, ← rep_snoc lf]; exact ((((((((s.del 4).del 3).pull 5).pull 2).pull 3).pull 5).pull 5).pull 5)))
    exact Z2
   ·
    refine Z23 ?_; intro ao202
    refine et_2 (i1 := 5) (i2 := 12) (by kernel_rfl) ?_ ?_
    ·
     refine Z1h ?_
     refine Z40 ?_ ?_
     ·
      refine Z2y ?_; intro ao203 ac203
      refine Z24 ?_
      refine Z36 ?_; intro ao204 ao205 ac205
      refine Zi ?_
      refine px_loop2 (i + 1, e1, g1, e2, g2, ao203, ac203, ao205, ac205) (by dsimp only; omega) (by (try dsimp only); omega) trivial ?_ (fun _ s => (by (try dsimp only); simp only [← rep_snoc be, ← rep_snoc lf]; exact ((((((((s.del 4).del 2).pull 5).pull 2).pull 3).pull 5).pull 5).pull 5)))
      exact Z2
     refine Z1n ?_; intro ao206
     refine Z1j ?_; intro ao207 ac207 ao208 ac208
     refine Zi ?_
     refine px_loop2 (i + 1, e1, g1, e2, g2, ao207, ac207, ao208, ac208) (by dsimp only; omega) (by (try dsimp only); omega) trivial ?_ (fun _ s => (by (try dsimp only); simp only [← rep_snoc be, ← rep_snoc lf]; exact ((((((((s.del 4).del 3).pull 5).pull 2).pull 3).pull 5).pull 5).pull 5)))
     exact Z2
    refine Z1d ?_; intro ao209
    refine Z4b ?_
    refine Z1j ?_; intro ao210 ac210 ao211 ac211
    refine Zi ?_
    refine px_loop2 (i + 1, e1, g1, e2, g2, ao210, ac210, ao211, ac211) (by dsimp only; omega) (by (try dsimp only); omega) trivial ?_ (fun _ s => (by (try dsimp only); simp only [← rep_snoc be, ← rep_snoc lf]; exact ((((((((s.del 4).del 3).pull 5).pull 2).pull 3).pull 5).pull 5).pull 5)))
    exact Z2
   refine Z23 ?_; intro ao212
   refine et_2 (i1 := 5) (i2 := 6) (by kernel_rfl) ?_ ?_
   ·
    refine Z1h ?_
    refine Z14 ?_
    refine Z1n ?_; intro ao213
    refine Z1k ?_; intro ao214 ac214 ao215 ac215
    refine Zi ?_
    refine px_loop2 (i + 1, e1, g1, e2, g2, ao214, ac214, ao215, ac215) (by dsimp only; omega) (by (try dsimp only); omega) trivial ?_ (fun _ s => (by (try dsimp only); simp only [← rep_snoc be, ← rep_snoc lf]; exact ((((((((s.del 4).del 3).pull 5).pull 2).pull 3).pull 5).pull 5).pull 5)))
    exact Z2
   refine Z1d ?_; intro ao216
   refine Z4b ?_
   refine Z1k ?_; intro ao217 ac217 ao218 ac218
   refine Zi ?_
   refine px_loop2 (i + 1, e1, g1, e2, g2, ao217, ac217, ao218, ac218) (by dsimp only; omega) (by (try dsimp only); omega) trivial ?_ (fun _ s => (by (try dsimp only); simp only [← rep_snoc be, ← rep_snoc lf]; exact ((((((((s.del 4).del 3).pull 5).pull 2).pull 3).pull 5).pull 5).pull 5)))
   exact Z2
  refine Z23 ?_; intro ao219
  refine et_3 (i1 := 5) (i2 := 6) (i3 := 11) (by kernel_rfl) ?_ ?_ ?_
  ·
   refine Z1h ?_
   refine et_2 (i1 := 6) (i2 := 11) (by kernel_rfl) ?_ ?_
   ·
    refine Z1d ?_; intro ao220
    refine Z41 ?_ ?_
    ·
     refine Z6g ?_; intro ao221 ac221
     refine Z32 ?_
     refine Z6q ?_; intro ao222 ac222
     refine Zi ?_
     refine px_loop2 (i + 1, e1, g1, e2, g2, ao221, ac221, ao222, ac222) (by dsimp only; omega) (by (try dsimp only); omega) trivial ?_ (fun _ s => (by (try dsimp only); simp only [← rep_snoc be, ← rep_snoc lf]; exact ((((((((s.del 4).del 3).pull 5).pull 2).pull 3).pull 5).pull 5).pull 5)))
     exact Z2
    refine Z3m ?_
    refine Z1k ?_; intro ao223 ac223 ao224 ac224
    refine Zi ?_
    refine px_loop2 (i + 1, e1, g1, e2, g2, ao223, ac223, ao224, ac224) (by dsimp only; omega) (by (try dsimp only); omega) trivial ?_ (fun _ s => (by (try dsimp only); simp only [← rep_snoc be, ← rep_snoc lf]; exact ((((((((s.del 4).del 3).pull 5).pull 2).pull 3).pull 5).pull 5).pull 5)))
    exact Z2
   refine Z1h ?_
   refine Z14 ?_
   refine Z1n ?_; intro ao225
   refine Z1k ?_; intro ao226 ac226 ao227 ac227
   refine Zi ?_
   refine px_loop2 (i + 1, e1, g1, e2, g2, ao226, ac226, ao227, ac227) (by dsimp only; omega) (by (try dsimp only); omega) trivial ?_ (fun _ s => (by (try dsimp only); simp only [← rep_snoc be, ← rep_snoc lf]; exact ((((((((s.del 4).del 3).pull 5).pull 2).pull 3).pull 5).pull 5).pull 5)))
   exact Z2
  ·
   refine Z1d ?_; intro ao228
   refine et_2 (i1 := 5) (i2 := 11) (by kernel_rfl) ?_ ?_
   ·
    refine Z5j ?_
    refine Z41 ?_ ?_
    ·
     refine Z6g ?_; intro ao229 ac229
     refine Z32 ?_
     refine Z6q ?_; intro ao230 ac230
     refine Zi ?_
     refine px_loop2 (i + 1, e1, g1, e2, g2, ao229, ac229, ao230, ac230) (by dsimp only; omega) (by (try dsimp only); omega) trivial ?_ (fun _ s => (by (try dsimp only); simp only [← rep_snoc be, ← rep_snoc lf]; exact ((((((((s.del 4).del 3).pull 5).pull 2).pull 3).pull 5).pull 5).pull 5)))
     exact Z2
    refine Z3m ?_
    refine Z1k ?_; intro ao231 ac231 ao232 ac232
    refine Zi ?_
    refine px_loop2 (i + 1, e1, g1, e2, g2, ao231, ac231, ao232, ac232) (by dsimp only; omega) (by (try dsimp only); omega) trivial ?_ (fun _ s => (by (try dsimp only); simp only [← rep_snoc be, ← rep_snoc lf]; exact ((((((((s.del 4).del 3).pull 5).pull 2).pull 3).pull 5).pull 5).pull 5)))
    exact Z2
   refine Z5j ?_
   refine Z4b ?_
   refine Z1k ?_; intro ao233 ac233 ao234 ac234
   refine Zi ?_
   refine px_loop2 (i + 1, e1, g1, e2, g2, ao233, ac233, ao234, ac234) (by dsimp only; omega) (by (try dsimp only); omega) trivial ?_ (fun _ s => (by (try dsimp only); simp only [← rep_snoc be, ← rep_snoc lf]; exact ((((((((s.del 4).del 3).pull 5).pull 2).pull 3).pull 5).pull 5).pull 5)))
   exact Z2
  refine Z1h ?_
  refine et_2 (i1 := 5) (i2 := 6) (by kernel_rfl) ?_ ?_
  ·
   refine Z1h ?_
   refine Z14 ?_
   refine Z1n ?_; intro ao235
   refine Z1k ?_; intro ao236 ac236 ao237 ac237
   refine Zi ?_
   refine px_loop2 (i + 1, e1, g1, e2, g2, ao236, ac236, ao237, ac237) (by dsimp only; omega) (by (try dsimp only); omega) trivial ?_ (fun _ s => (by (try dsimp only); simp only [← rep_snoc be, ← rep_snoc lf]; exact ((((((((s.del 4).del 3).pull 5).pull 2).pull 3).pull 5).pull 5).pull 5)))
   exact Z2
  refine Z1d ?_; intro ao238
  refine Z4b ?_
  refine Z1k ?_; intro ao239 ac239 ao240 ac240
  refine Zi ?_
  refine px_loop2 (i + 1, e1, g1, e2, g2, ao239, ac239, ao240, ac240) (by dsimp only; omega) (by (try dsimp only); omega) trivial ?_ (fun _ s => (by (try dsimp only); simp only [← rep_snoc be, ← rep_snoc lf]; exact ((((((((s.del 4).del 3).pull 5).pull 2).pull 3).pull 5).pull 5).pull 5)))
  exact Z2
 have hp1 := hb1
 (try simp only [bn] at hp1)
 refine Z6m ?_
 have ei : i = (t.nodes.length - o.length) := by rw [List.length_append, List.length_replicate] at hp1; omega
 subst ei
 exact px_end0 (l' := TreeObj pt t :: WRaw pw pt (growO t.nodes.length o) (sm ++ List.replicate (t.nodes.length - o.length) 0) (be ++ List.replicate (t.nodes.length - o.length) (-1)) (lf ++ List.replicate (t.nodes.length - o.length) (-1)) :: l) rfl (fun _ s => ((Sat.wrawMk rfl rfl rfl rfl (((((s.pull 5).pull 5).pull 5).pull 5).pull 5)).pull 1)) ⟨rfl, rfl⟩
end Go.SL

set_option linter.unusedVariables false
set_option linter.unusedSimpArgs false
namespace Go.SL
open Go.Proofs

set_option maxRecDepth 100000 in
set_option maxHeartbeats 1000000 in
theorem rank_calls {w0 w : World} {l : List HProp} (pw pt : Nat) (t : TreeS) (o sm be lf : List Int) (hs : Sat w0 w ((TreeObj pt t) :: (WRaw pw pt o sm be lf) :: l)) (h2 : sm.length = t.nodes.length) (h3 : be.length = t.nodes.length) (h4 : lf.length = t.nodes.length) :
  Calls Try.prog 77 #[.pointer (some ⟨pw, 0, none⟩)] w (Ret w0 fun v l' => v = .tuple #[] ∧ l' = TreeObj pt t :: WRaw pw pt o sm (bestL t.nodes sm) (leafL t.nodes sm) :: l) := by
 have hw := hs.treeWF
 have hm1 := hw.m1; have hm2 := hw.m2; have hle := hw.le; have hne := hw.ne; have hpa := hw.pa; have hnd := hw.nd
 obtain ⟨a1, c1, a2, c2, a3, c3, a4, c4, hs⟩ := (hs.pull 1).wrawOpen
 refine calls_enter Try.func77 rfl rfl rfl hs ?_
 refine Z1q ?_
 refine Zr ?_
 refine oq (op_field fld_116_3 rfl) ?_
 refine oq (op_ld 0 sc_42 rfl rfl rfl) ?_
 refine Z5k ?_
 refine Z1l ?_
 refine cd_pull4 ?_
 refine cd_pull4 ?_
 refine cd_loop2 (α := Nat) [(2, 2), (13, 29)] (fun x => [(13, .int .i64 (x : Int))]) (fun x => Row 3 encI64 (.slice a3 be.length c3) (tab t.nodes.length (fun j => if j < x then (-1 : Int) else oA be j)) :: Row 3 encI64 (.slice a4 lf.length c4) (tab t.nodes.length (fun j => if j < x then (j : Int) else oA lf j)) :: _) (fun x => x ≤ t.nodes.length) (fun x => t.nodes.length - x) 0 (Nat.zero_le _) ⟨rfl, trivial⟩ (fun _ s => by (try dsimp only); rw [tab_start h3, tab_start h4]; exact s) ?_
 rintro i1 hi f; (try dsimp only at hi ⊢)
 refine Zx ?_
 refine cd_cond rfl (fun hb1 => ?_) (fun hb1 => ?_)
 ·have hp1 := hb1
  (try simp only [bn] at hp1)
  have hi1 : i1 < t.nodes.length := by omega
  refine Z2t ?_
  refine Z8 ?_
  refine cd_pull1 ?_
  refine cd_draw (M := [_, _]) mx [11, 12, 13, 14] (by kernel_rfl) ?_
  refine Z6 ?_
  refine rg_q (wn_none rfl) (op_field fld_116_3 rfl) rfl rfl ?_
  refine Z9j ?_
  refine Ze ?_
  refine Z6 ?_
  refine rg_q (wn_none rfl) (op_field fld_116_4 rfl) rfl rfl ?_
  refine Z9j ?_
  refine Ze ?_
  refine Ze ?_
  refine Zbi ?_
  refine Zbj ?_
  refine Zbi ?_
  refine Zbj ?_
  refine rg_nil2 ?_
  refine Z5o ?_
  have eB : (tab t.nodes.length (fun j => if j < i1 then (-1 : Int) else oA be j)).set i1 (-1) = tab t.nodes.length (fun j => if j < (i1 + 1) then (-1 : Int) else oA be j) := tab_upd fun j hj => by (repeat' split) <;> first | rfl | omega
  have eL : (tab t.nodes.length (fun j => if j < i1 then (j : Int) else oA lf j)).set i1 (i1 : Int) = tab t.nodes.length (fun j => if j < (i1 + 1) then (j : Int) else oA lf j) := tab_upd fun j hj => by (repeat' split) <;> first | rfl | omega
  refine px_loop2 (i1 + 1) (by omega) (by (try dsimp only); omega) ⟨congrArg (Value.int .i64) (by simp), trivial⟩ ?_ (fun _ s => (by (try dsimp only); rw [← eB, ← eL]; exact ((((((s.pull 5).pull 5).pull 5).pull 5).pull 4).pull 5)))
  exact Z2
 have hp1 := hb1
 (try simp only [bn] at hp1)
 have hi1 : i1 = t.nodes.length := by omega
 refine Z1e ?_
 refine Z1q ?_
 refine Zr ?_
 refine oq (op_field fld_116_3 rfl) ?_
 refine oq (op_ld 2 sc_42 rfl rfl rfl) ?_
 refine Z5k ?_
 refine Z2m ?_
 refine Z3j ?_
 refine cd_loop2 (α := Int) [(3, 5), (36, 67)] (fun x => [(3, .int .i64 x)]) (fun x => Row 3 encI64 (.slice a3 be.length c3) (tab t.nodes.length (fun p => bestD t.nodes (oA sm) t.nodes.length ((t.nodes.length : Int) - 1 - x).toNat p)) :: _) (fun x => 0 ≤ x ∧ x < t.nodes.length) (fun x => x.toNat) ((be.length : Int) - 1) (by omega) ⟨rfl, trivial⟩ (fun _ s => by (try dsimp only); rw [← show tab t.nodes.length (fun j => if j < i1 then (-1 : Int) else oA be j) = tab t.nodes.length (fun p => bestD t.nodes (oA sm) t.nodes.length ((t.nodes.length : Int) - 1 - ((be.length : Int) - 1)).toNat p) from tab_congr fun j hj => by rw [show ((t.nodes.length : Int) - 1 - ((be.length : Int) - 1)).toNat = 0 by omega, bestD_zero, if_pos (by omega)]]; exact s) ?_
 rintro i ⟨hi0, hi⟩ f; (try dsimp only at hi0 hi ⊢)
 refine Zf ?_
 refine oq (op_gt rfl rfl) ?_
 refine Z1 ?_
 refine cd_cond rfl (fun hb2 => ?_) (fun hb2 => ?_)
 ·have hp2 := hb2
  (try simp only [bn] at hp2)
  obtain ⟨i0, rfl⟩ : ∃ i0 : Nat, i = i0 := ⟨i.toNat, by omega⟩
  obtain ⟨j0, hpj, hj0⟩ : ∃ j : Nat, prA t.nodes i0 = j ∧ j < i0 := by
   rcases hpa.rg (show i0 < t.nodes.length by omega) with ⟨h, _⟩ | h
   ·exact absurd h (by omega)
   exact h
  have hbr := bestD_rg hnd (oA sm) (m := ((t.nodes.length : Int) - 1 - (i0 : Int)).toNat) (n := t.nodes.length) (by omega) (Nat.le_refl _) j0
  refine Z3g ?_
  refine Z1v ?_
  refine oq (op_field fld_116_0 rfl) ?_
  refine oq (op_ld 2 sc_26 rfl rfl rfl) ?_
  refine Z4 ?_
  refine ol_pull5 ?_
  refine oi (os_call cb_24 rfl (fun w s => Node_calls _ _ _  s )) ?_; rintro _ _ ⟨rfl, rfl⟩; rw [TreeS.node_at]
  refine Z3r ?_
  refine Z3k ?_; intro bx1
  refine Z4a ?_
  refine cd_pull6 ?_
  refine cd_pull5 ?_
  refine cd_pull3 ?_
  refine Z7 ?_
  refine cd_drawt (M := [_, _, _]) mx [5] 10 (by kernel_rfl) rfl rfl ?_
  dsimp only [List.take_succ_cons, List.take_zero, List.drop_succ_cons, List.drop_zero]
  refine Zd ?_
  refine Ze ?_
  refine Z6 ?_
  refine rg_q (wn_none rfl) (op_field fld_116_3 rfl) rfl rfl ?_
  refine rg_i (wn_none rfl) (os_q (op_ld 1 sc_42 rfl rfl rfl)) rfl rfl ?_; rintro _ _ ⟨rfl, rfl⟩; refine ⟨[_, _, _], rfl, ?_⟩
  refine rg_q (wn_none rfl) (op_field fld_51_2 rfl) rfl rfl ?_
  refine rg_q (wn_none rfl) (op_ld 0 sc_3 rfl rfl (show (nodeC _).toArray[33]? = some (.int .i64 (prA t.nodes i0)) from nodeC_a33 _)) rfl rfl ?_
  refine rg_q (wn_none rfl) (op_index j0 sB_42 rfl rfl hpj (rds_row 1 rfl rfl) (by first | rfl | (rw [tab_len]; omega) | (rw [hbl]; omega)) (by rw [tab_len]; omega)) rfl rfl ?_
  refine rg_q (wn_none rfl) (op_ldw sc_3 (rds_row 1 rfl rfl) rfl (by rw [tab_len]; omega) rfl) rfl rfl ?_
  refine rg_tail3 ?_
  refine Zs ?_
  refine Zs ?_
  refine Zs ?_
  refine oi (os_call cb_93 rfl (fun w s => ahead_calls _ _ _ _ _ _ _ _ _ _ _ _  s rfl (by omega) (by rw [tab_get]; rcases hbr with h | ⟨k, h, _, h3⟩ <;> omega))) ?_; rintro _ _ ⟨rfl, rfl⟩; rw [tab_get]
  refine Z1 ?_
  refine cd_cond rfl (fun hb3 => ?_) (fun hb3 => ?_)
  ·have hp3 := hb3
   (try simp only [bn] at hp3)
   have eB : (tab t.nodes.length (fun p => bestD t.nodes (oA sm) t.nodes.length ((t.nodes.length : Int) - 1 - (i0 : Int)).toNat p)).set j0 (i0 : Int) = tab t.nodes.length (fun p => bestD t.nodes (oA sm) t.nodes.length ((t.nodes.length : Int) - 1 - ((i0 : Int) - 1)).toNat p) := tab_upd fun p hp => by
    rw [show ((t.nodes.length : Int) - 1 - ((i0 : Int) - 1)).toNat = ((t.nodes.length : Int) - 1 - (i0 : Int)).toNat + 1 by omega, bestD_succ, show t.nodes.length - ((t.nodes.length : Int) - 1 - (i0 : Int)).toNat - 1 = i0 by omega, hpj]
    by_cases e : p = j0
    ·subst e; rw [if_pos rfl, if_pos ⟨rfl, hb3⟩]
    rw [if_neg e, if_neg (fun h => e (by have := h.1; omega))]
   refine cd_drawt (M := []) mx [7] 8 (by kernel_rfl) rfl rfl ?_
   dsimp only [List.take_succ_cons, List.take_zero, List.drop_succ_cons, List.drop_zero]
   refine Z6 ?_
   refine rg_q (wn_none rfl) (op_field fld_116_3 rfl) rfl rfl ?_
   refine rg_q (wn_none rfl) (op_ld 1 sc_42 rfl rfl rfl) rfl rfl ?_
   refine rg_q (wn_none rfl) (op_field fld_51_2 rfl) rfl rfl ?_
   refine rg_q (wn_none rfl) (op_ld 3 sc_3 rfl rfl (show (nodeC _).toArray[33]? = some (.int .i64 (prA t.nodes i0)) from nodeC_a33 _)) rfl rfl ?_
   refine Ze ?_
   refine rg_i (wn_none rfl) (os_q (op_index j0 sB_42 rfl rfl hpj (rds_row 4 rfl rfl) (by first | rfl | (rw [tab_len]; omega) | (rw [hbl]; omega)) (by rw [tab_len]; omega))) rfl rfl ?_; rintro _ _ ⟨rfl, rfl⟩; refine ⟨[], rfl, ?_⟩
   refine rg_tail0 ?_
   refine ol_pull4 ?_
   refine oN (os_stsw  sc_3 rfl rfl rfl (by rw [tab_len]; omega) rfl rfl) ?_; rintro _ _ ⟨rfl, rfl⟩
   refine ol_nil ?_
   refine Z4p ?_
   refine Z2m ?_
   refine Z2s ?_
   refine px_loop2 ((i0 : Int) - 1) (by omega) (by (try dsimp only); omega) ⟨rfl, trivial⟩ ?_ (fun _ s => (by (try dsimp only); rw [← eB]; exact (((((((s.del 4).pull 1).pull 3).pull 5).pull 4).pull 5).pull 5)))
   exact Z2
  have hp3 := hb3
  (try simp only [bn] at hp3)
  have eB : tab t.nodes.length (fun p => bestD t.nodes (oA sm) t.nodes.length ((t.nodes.length : Int) - 1 - (i0 : Int)).toNat p) = tab t.nodes.length (fun p => bestD t.nodes (oA sm) t.nodes.length ((t.nodes.length : Int) - 1 - ((i0 : Int) - 1)).toNat p) := tab_congr fun p hp => by
   rw [show ((t.nodes.length : Int) - 1 - ((i0 : Int) - 1)).toNat = ((t.nodes.length : Int) - 1 - (i0 : Int)).toNat + 1 by omega, bestD_succ, show t.nodes.length - ((t.nodes.length : Int) - 1 - (i0 : Int)).toNat - 1 = i0 by omega, hpj]
   by_cases e : p = j0
   ·subst e; rw [if_neg (fun h => by rw [h.2] at hb3; cases hb3)]
   rw [if_neg (fun h => e (by have := h.1; omega))]
  refine cd_skip ?_
  refine Z4p ?_
  refine Z2m ?_
  refine Z2s ?_
  refine px_loop2 ((i0 : Int) - 1) (by omega) (by (try dsimp only); omega) ⟨rfl, trivial⟩ ?_ (fun _ s => (by (try dsimp only); rw [← eB]; exact ((((((s.del 3).pull 2).pull 5).pull 3).pull 5).pull 5)))
  exact Z2
 have hp2 := hb2
 (try simp only [bn] at hp2)
 have hi0 : i = 0 := by omega
 have eB : tab t.nodes.length (fun p => bestD t.nodes (oA sm) t.nodes.length ((t.nodes.length : Int) - 1 - i).toNat p) = bestL t.nodes sm := by
  unfold bestL
  rw [h2]
  exact tab_congr fun p hp => by rw [show ((t.nodes.length : Int) - 1 - i).toNat = t.nodes.length - 1 by omega]; exact bestD_all hnd hpa _ (Nat.le_refl _) p
 rw [eB]
 have hbl : (bestL t.nodes sm).length = t.nodes.length := by unfold bestL; simp [h2]
 refine Z1e ?_
 refine Z1v ?_
 refine oq (op_field fld_116_3 rfl) ?_
 refine oq (op_ld 2 sc_42 rfl rfl rfl) ?_
 refine Z5k ?_
 refine Z2m ?_
 refine Z3j ?_
 refine cd_pull1 ?_
 refine cd_loop2 (α := Int) [(6, 7), (74, 99)] (fun x => [(6, .int .i64 x)]) (fun x => Row 3 encI64 (.slice a4 lf.length c4) (tab t.nodes.length (fun j => if (j : Int) ≤ x then (j : Int) else ((leafN t.nodes (oA sm) t.nodes.length j : Nat) : Int))) :: _) (fun x => -1 ≤ x ∧ x < t.nodes.length) (fun x => (x + 1).toNat) ((be.length : Int) - 1) (by omega) ⟨rfl, trivial⟩ (fun _ s => by (try dsimp only); rw [← show tab t.nodes.length (fun j => if j < i1 then (j : Int) else oA lf j) = tab t.nodes.length (fun j => if (j : Int) ≤ ((be.length : Int) - 1) then (j : Int) else ((leafN t.nodes (oA sm) t.nodes.length j : Nat) : Int)) from tab_congr fun j hj => by rw [if_pos (by omega), if_pos (by omega)]]; exact s) ?_
 rintro i3 ⟨hi30, hi3⟩ f; (try dsimp only at hi30 hi3 ⊢)
 refine Zf ?_
 refine Z3s ?_
 refine cd_cond rfl (fun hb4 => ?_) (fun hb4 => ?_)
 ·have hp4 := hb4
  (try simp only [bn] at hp4)
  obtain ⟨i0, rfl⟩ : ∃ i0 : Nat, i3 = i0 := ⟨i3.toNat, by omega⟩
  have hbv : (bestL t.nodes sm)[i0]'(by rw [hbl]; omega) = bestN t.nodes (oA sm) sm.length i0 := by simp only [bestL, List.getElem_map, List.getElem_range]
  refine Z3g ?_
  refine Z1v ?_
  refine oq (op_field fld_116_3 rfl) ?_
  refine oq (op_ld 2 sc_42 rfl rfl rfl) ?_
  refine Z4 ?_
  refine oq (op_index i0 sB_42 rfl rfl rfl (rds_row 1 rfl rfl) (by first | rfl | (rw [tab_len]; omega) | (rw [hbl]; omega)) (by rw [hbl]; omega)) ?_
  refine oq (op_ldw sc_3 (rds_row 1 rfl rfl) rfl (by rw [hbl]; omega) rfl) ?_
  refine Z1r ?_
  refine Z3s ?_
  refine cd_cond rfl (fun hb5 => ?_) (fun hb5 => ?_)
  ·have hp5 := hb5
   (try simp only [bn] at hp5)
   obtain ⟨k0, hk0, hk1, hk2⟩ : ∃ k0 : Nat, (bestL t.nodes sm)[i0]'(by rw [hbl]; omega) = (k0 : Int) ∧ i0 < k0 ∧ k0 < t.nodes.length := by
    rcases bestN_rg hnd hpa (oA sm) (Nat.le_of_eq h2) i0 with h | ⟨k, h, h5, h6, _⟩
    ·omega
    exact ⟨k, by omega, h5, by omega⟩
   have eL : (tab t.nodes.length (fun j => if (j : Int) ≤ (i0 : Int) then (j : Int) else ((leafN t.nodes (oA sm) t.nodes.length j : Nat) : Int))).set i0 ((tab t.nodes.length (fun j => if (j : Int) ≤ (i0 : Int) then (j : Int) else ((leafN t.nodes (oA sm) t.nodes.length j : Nat) : Int)))[k0]'(by rw [tab_len]; omega)) = tab t.nodes.length (fun j => if (j : Int) ≤ ((i0 : Int) - 1) then (j : Int) else ((leafN t.nodes (oA sm) t.nodes.length j : Nat) : Int)) := tab_upd fun j hj => by
    rw [tab_get]
    by_cases e : j = i0
    ·subst e
     rw [if_pos rfl, if_neg (by omega), if_neg (by omega), ← h2, leafN_yes hnd hpa (Nat.le_of_eq h2) (hbv.symm.trans hk0)]
    rw [if_neg e]
    by_cases q1 : (j : Int) ≤ (i0 : Int)
    ·rw [if_pos q1, if_pos (by omega)]
    rw [if_neg q1, if_neg (by omega)]
   refine cd_drawt (M := []) mx [10, 11, 12] 13 (by kernel_rfl) rfl rfl ?_
   dsimp only [List.take_succ_cons, List.take_zero, List.drop_succ_cons, List.drop_zero]
   refine Z6 ?_
   refine rg_q (wn_none rfl) (op_field fld_116_4 rfl) rfl rfl ?_
   refine rg_q (wn_none rfl) (op_ld 2 sc_42 rfl rfl rfl) rfl rfl ?_
   refine Ze ?_
   refine Z6 ?_
   refine rg_q (wn_none rfl) (op_field fld_116_4 rfl) rfl rfl ?_
   refine rg_q (wn_none rfl) (op_ld 2 sc_42 rfl rfl rfl) rfl rfl ?_
   refine Ze ?_
   refine rg_i (wn_none rfl) (os_q (op_index k0 sB_42 rfl rfl hk0 (rds_row 0 rfl rfl) (by first | rfl | (rw [tab_len]; omega) | (rw [hbl]; omega)) (by rw [tab_len]; omega))) rfl rfl ?_; rintro _ _ ⟨rfl, rfl⟩; refine ⟨[], rfl, ?_⟩
   refine rg_i (wn_none rfl) (os_q (op_ldw sc_3 (rds_row 0 rfl rfl) rfl (by rw [tab_len]; omega) rfl)) rfl rfl ?_; rintro _ _ ⟨rfl, rfl⟩; refine ⟨[], rfl, ?_⟩
   refine rg_i (wn_none rfl) (os_q (op_index i0 sB_42 rfl rfl rfl (rds_row 0 rfl rfl) (by first | rfl | (rw [tab_len]; omega) | (rw [hbl]; omega)) (by rw [tab_len]; omega))) rfl rfl ?_; rintro _ _ ⟨rfl, rfl⟩; refine ⟨[], rfl, ?_⟩
   refine rg_tail0 ?_
   refine oN (os_stsw  sc_3 rfl rfl rfl (by rw [tab_len]; omega) rfl rfl) ?_; rintro _ _ ⟨rfl, rfl⟩
   refine ol_nil ?_
   refine Z4p ?_
   refine Z2m ?_
   refine Z2s ?_
   exact Zd8
  have hp5 := hb5
  (try simp only [bn] at hp5)
  have eL : tab t.nodes.length (fun j => if (j : Int) ≤ (i0 : Int) then (j : Int) else ((leafN t.nodes (oA sm) t.nodes.length j : Nat) : Int)) = tab t.nodes.length (fun j => if (j : Int) ≤ ((i0 : Int) - 1) then (j : Int) else ((leafN t.nodes (oA sm) t.nodes.length j : Nat) : Int)) := tab_congr fun j hj => by
   by_cases e : j = i0
   ·subst e
    rw [if_pos (by omega), if_neg (by omega), ← h2, leafN_no _ (by omega)]
   by_cases q1 : (j : Int) ≤ (i0 : Int)
   ·rw [if_pos q1, if_pos (by omega)]
   rw [if_neg q1, if_neg (by omega)]
  refine cd_skip ?_
  refine Z4p ?_
  refine Z2m ?_
  refine Z2s ?_
  exact Zd8
 have hp4 := hb4
 (try simp only [bn] at hp4)
 refine Z6m ?_
 have ei : i3 = -1 := by omega
 have eL : tab t.nodes.length (fun j => if (j : Int) ≤ i3 then (j : Int) else ((leafN t.nodes (oA sm) t.nodes.length j : Nat) : Int)) = leafL t.nodes sm := by
  unfold leafL
  rw [h2]
  exact tab_congr fun j hj => by rw [if_neg (by omega)]
 rw [eL]
 exact px_end0 (l' := TreeObj pt t :: WRaw pw pt o sm (bestL t.nodes sm) (leafL t.nodes sm) :: l) rfl (fun _ s => ((Sat.wrawMk rfl rfl (by rw [hbl]; omega) (by unfold leafL; simp; omega) ((((((s.pull 5).pull 1).pull 2).pull 5).pull 5).pull 5)).pull 1)) ⟨rfl, rfl⟩
end Go.SL

set_option linter.unusedVariables false
set_option linter.unusedSimpArgs false
namespace Go.SL
open Go.Proofs

set_option maxRecDepth 100000 in
set_option maxHeartbeats 1000000 in
theorem next_calls {w0 w : World} {l : List HProp} (pw pt : Nat) (t : TreeS) (o sm be lf : List Int) (lo : Option Addr) (lc : Nat) (xs : List Delta) (hs : Sat w0 w ((TreeObj pt t) :: (WRaw pw pt o sm be lf) :: l)) (h1 : o.length = t.nodes.length) (hen : Ent o) (hr : Rds w0 l encDelta lo xs) (hxl : xs.length ≤ 1000) :
  Calls Try.prog 78 #[.pointer (some ⟨pw, 0, none⟩), .slice lo xs.length lc] w (Ret w0 fun v l' => ∃ out ao c, v = .tuple #[.slice ao (List.length out) c, .int .i64 (nextO t.nodes o xs)] ∧ l' = Row 3 encI64 (.slice ao (List.length out) c) out :: TreeObj pt t :: WRaw pw pt o sm be lf :: l ∧ (nextO t.nodes o xs = 0 → out = (runO t.nodes o xs).2)) := by
 have hw := hs.treeWF
 have hm1 := hw.m1; have hm2 := hw.m2; have hle := hw.le; have hne := hw.ne; have hpa := hw.pa; have hnd := hw.nd
 obtain ⟨a1, c1, a2, c2, a3, c3, a4, c4, hs⟩ := (hs.pull 1).wrawOpen
 refine calls_enter Try.func78 rfl rfl rfl hs ?_
 refine Z0 ?_
 refine Zw ?_
 refine Z8 ?_
 refine Z0 ?_
 refine oi (os_bslice (E := encI64) [] (ys := ([] : List Int)) sB_42 zv_3 rfl rfl rfl rfl (by decide)) ?_; rintro _ _ ⟨ao1, rfl, rfl⟩
 refine Z1p ?_
 refine Zr ?_
 refine oq (op_field fld_116_1 rfl) ?_
 refine oq (op_ld 1 sc_42 rfl rfl rfl) ?_
 refine oi (os_append (E := encI64) rfl sB_42 zv_3 rfl rfl rfl (fun w s => (rds_row 2 rfl rfl) [] w s) rfl (by simp; omega) (by unfold maxLen; simp; omega)) ?_; rintro _ _ ⟨ao2, ac2, rfl, rfl⟩
 refine Zw ?_
 refine Z4c ?_
 refine Zm ?_
 refine oq (op_len_slice Try.underlying97 rfl) ?_
 refine Z1l ?_
 refine cd_loop2 (α := Nat × List Int) [(4, 5), (8, 9), (21, 64)] (fun x => [(21, .int .i64 (x.1 : Int))]) (fun x => Row 3 encI64 (.slice ao2 ([] ++ o).length ac2) x.2 :: _) (fun x => x.1 ≤ xs.length ∧ runO t.nodes o (xs.take x.1) = (0, x.2)) (fun x => xs.length - x.1) (0, [] ++ o) ⟨Nat.zero_le _, by rw [List.take_zero]; rfl⟩ ⟨rfl, trivial⟩ (fun _ s => s) ?_
 rintro ⟨i, cur⟩ ⟨hi, hrun⟩ f; (try dsimp only at hi hrun ⊢)
 have hcl := runO_len t.nodes (xs.take i) o
 have hent := runO_ent (ns := t.nodes) (xs.take i) hen
 rw [hrun] at hcl hent
 dsimp only at hcl hent
 have hcl0 : ([] ++ o).length = cur.length := by rw [List.nil_append]; exact hcl.symm
 refine Zx ?_
 refine cd_cond rfl (fun hb1 => ?_) (fun hb1 => ?_)
 ·have hp1 := hb1
  (try simp only [bn] at hp1)
  have hi1 : i < xs.length := by omega
  refine Z33 ?_
  refine oq (op_index i sB_97 rfl rfl rfl (((((((hr.cons _).cons _).cons _).cons _).cons _).cons _).cons _) rfl (by omega)) ?_
  refine oq (op_ldaw (L := deltaC _) ag_102 (((((((hr.cons _).cons _).cons _).cons _).cons _).cons _).cons _) rfl (by omega) rfl (deltaC_ta _)) ?_
  refine oi (os_alloc (cs := (deltaC Delta.zero).toArray) zB_102 (by kernel_rfl)) ?_; rintro _ _ ⟨bx1, rfl, rfl⟩
  refine oN (os_storew (deltaC _) ag_102 rfl rfl (deltaC_len _) (deltaC_one _) (by simp [deltaC_len]) (Free.zero _)) ?_; rintro _ _ ⟨rfl, rfl⟩
  refine Z1 ?_
  refine cd_pull7 ?_
  refine Z7 ?_
  refine cd_draw (M := [_]) mx [6] (by kernel_rfl) ?_
  refine Z6 ?_
  refine Z8m ?_
  refine rg_q (wn_none rfl) (op_ld 2 sc_26 rfl rfl rfl) rfl rfl ?_
  refine rg_q (wn_none rfl) (op_field fld_102_0 rfl) rfl rfl ?_
  refine rg_q (wn_none rfl) (op_lda (L := rootC _) 0 ag_24 rfl rfl (deltaC_af0 _) (by simp [deltaC_len])) rfl rfl ?_
  refine Z9l ?_
  refine Z3t ?_
  refine Z7 ?_
  refine cd_block ?_
  refine Z18 ?_
  refine Z4y ?_
  refine Zb ?_
  refine cd_cond rfl (fun hb2 => ?_) (fun hb2 => ?_)
  ·have hp2 := hb2
   (try simp only [bn] at hp2)
   have hno : idxOf t.nodes xs[i].root = none := TreeS.place_none (by omega)
   refine Z0 ?_
   refine Zw ?_
   refine Zp ?_
   refine Z2o ?_
   refine Z1z ?_
   have hnx : nextO t.nodes o xs = 7 := runO_fail hi1 hrun (stepO_none hno) (by decide)
   exact px_ret2 rfl (v1 := .slice none 0 0) (v2 := .int _ 7) (l' := Row 3 encI64 (.slice none ([] : List Int).length 0) [] :: TreeObj pt t :: WRaw pw pt o sm be lf :: l) rfl rfl (fun _ s => Sat.rowNil ((Sat.wrawMk rfl rfl rfl rfl (((((((s.del 2).del 1).pull 5).pull 5).pull 5).pull 5).pull 5)).pull 1)) ⟨[], none, 0, by rw [hnx]; rfl, rfl, fun h => by rw [hnx] at h; cases h⟩
  have hp2 := hb2
  (try simp only [bn] at hp2)
  obtain ⟨j0, hij, hpj⟩ := TreeS.place_some (t := t) (r := xs[i].root) (by omega)
  have hjl := idxOf_lt hij
  have hej := hent j0
  rw [oA_get (show j0 < cur.length by omega)] at hej
  refine Z0 ?_
  refine oq (op_field fld_102_1 rfl) ?_
  refine oq (op_ld 1 sc_3 rfl rfl (deltaC_a32 _)) ?_
  refine oq (op_le rfl rfl) ?_
  refine Z5 ?_
  refine ol_split 39 rfl (fun hb3 => ?_) (fun hb3 => ?_)
  ·have hp3 := hb3
   (try simp only [bn] at hp3)
   have hdd : xs[i].n ≤ -4611686018427387904 ∨ 4611686018427387904 ≤ xs[i].n := by omega
   refine Z2p ?_
   refine Z9d ?_
   refine Z4j ?_
   refine Zb ?_
   refine Z5e ?_
   refine Z0 ?_
   refine Zw ?_
   refine Zp ?_
   refine Z2o ?_
   refine Z1z ?_
   have hnx : nextO t.nodes o xs = 1 := runO_fail hi1 hrun (stepO_arg hij hdd) (by decide)
   exact Zbk
  have hp3 := hb3
  (try simp only [bn] at hp3)
  refine ol_q (wn_some rfl rfl rfl hb3 rfl) (op_field fld_102_1 rfl) rfl ?_
  refine ol_q (wn_some rfl rfl rfl hb3 rfl) (op_ld 1 sc_3 rfl rfl (deltaC_a32 _)) rfl ?_
  refine ol_q (wn_some rfl rfl rfl hb3 rfl) (op_ge rfl rfl) rfl ?_
  refine Z5g ?_
  refine Zb ?_
  refine cd_cond rfl (fun hb4 => ?_) (fun hb4 => ?_)
  ·have hp4 := hb4
   (try simp only [bn] at hp4)
   have hdd : xs[i].n ≤ -4611686018427387904 ∨ 4611686018427387904 ≤ xs[i].n := by omega
   refine Z0 ?_
   refine Zw ?_
   refine Zp ?_
   refine Z2o ?_
   refine Z1z ?_
   have hnx : nextO t.nodes o xs = 1 := runO_fail hi1 hrun (stepO_arg hij hdd) (by decide)
   exact Zbk
  have hp4 := hb4
  (try simp only [bn] at hp4)
  have hd : ¬ (xs[i].n ≤ -4611686018427387904 ∨ 4611686018427387904 ≤ xs[i].n) := by omega
  have hcj : oA cur j0 = cur[j0] := oA_get (by omega)
  refine cd_skip ?_
  refine Z97 ?_
  refine Z7 ?_
  refine cd_drawt (M := []) mx [2, 3, 7] 8 (by kernel_rfl) rfl rfl ?_
  dsimp only [List.take_succ_cons, List.take_zero, List.drop_succ_cons, List.drop_zero]
  refine Z5w ?_
  refine Ze ?_
  refine Zbl ?_
  refine rg_i (wn_none rfl) (os_q (op_ldw sc_3 (rds_row 2 rfl rfl) rfl (by omega) rfl)) rfl rfl ?_; rintro _ _ ⟨rfl, rfl⟩; refine ⟨[], rfl, ?_⟩
  refine rg_q (wn_none rfl) (op_field fld_102_1 rfl) rfl rfl ?_
  refine rg_q (wn_none rfl) (op_ld 1 sc_3 rfl rfl (deltaC_a32 _)) rfl rfl ?_
  refine Z6y ?_
  refine Zbl ?_
  refine rg_tail0 ?_
  refine Zs ?_
  refine oN (os_stsw  sc_3 rfl rfl rfl (by omega) rfl rfl) ?_; rintro _ _ ⟨rfl, rfl⟩
  refine Z19 ?_
  refine Zm ?_
  refine Z4 ?_
  refine oq (op_index j0 sB_42 rfl rfl hpj (rds_row 0 rfl rfl) (by simp; omega) (by rw [List.length_set]; omega)) ?_
  refine oq (op_ldw sc_3 (rds_row 0 rfl rfl) rfl (by rw [List.length_set]; omega) rfl) ?_
  refine Z4y ?_
  refine Z5 ?_
  refine ol_split 57 rfl (fun hb5 => ?_) (fun hb5 => ?_)
  ·have hp5 := hb5
   (try simp only [bn] at hp5)
   have hpS := hp5
   refine Z2z ?_
   refine Z2z ?_
   refine Z2z ?_
   refine Z2z ?_
   refine Z2z ?_
   refine oq (op_pick_t (v := .bool _) rfl hb5 rfl) ?_
   refine Z2b ?_
   refine Z0 ?_
   refine Zw ?_
   refine Zp ?_
   refine Z1z ?_
   have hnx : nextO t.nodes o xs = 1 := runO_fail hi1 hrun (stepO_out hij hd (by rw [hcj]; have q9 := hpS; simp only [set_get] at q9; omega)) (by decide)
   exact Zbm
  have hp5 := hb5
  (try simp only [bn] at hp5)
  have hpF := hp5
  refine ol_q (wn_some rfl rfl rfl hb5 rfl) (op_move (v := .slice _ _ _) rfl) rfl ?_
  refine ol_q (wn_some rfl rfl rfl hb5 rfl) (op_move (v := .int _ _) rfl) rfl ?_
  refine ol_q (wn_some rfl rfl rfl hb5 rfl) (op_index j0 sB_42 rfl rfl hpj (rds_row 0 rfl rfl) (by simp; omega) (by rw [List.length_set]; omega)) rfl ?_
  refine ol_q (wn_some rfl rfl rfl hb5 rfl) (op_ldw sc_3 (rds_row 0 rfl rfl) rfl (by rw [List.length_set]; omega) rfl) rfl ?_
  refine ol_q (wn_some rfl rfl rfl hb5 rfl) (op_ge rfl rfl) rfl ?_
  refine oq (op_pick_f (v := .bool _) rfl hb5 rfl) ?_
  refine Z1 ?_
  refine cd_cond rfl (fun hb6 => ?_) (fun hb6 => ?_)
  ·have hp6 := hb6
   (try simp only [bn] at hp6)
   have hpS := hp6
   refine Z0 ?_
   refine Zw ?_
   refine Zp ?_
   refine Z1z ?_
   have hnx : nextO t.nodes o xs = 1 := runO_fail hi1 hrun (stepO_out hij hd (by rw [hcj]; have q9 := hpS; simp only [set_get] at q9; omega)) (by decide)
   exact Zbm
  have hp6 := hb6
  (try simp only [bn] at hp6)
  have hst : stepO t.nodes cur xs[i] = (0, cur.set j0 (cur[j0] + xs[i].n)) := by
   rw [stepO_in hij hd (by rw [hcj]; have q9 := hp6; have q8 := hpF; simp only [set_get] at q9 q8; omega), hcj]
  refine Z34 ?_
  refine px_loop2 (i + 1, cur.set j0 (cur[j0] + xs[i].n)) ⟨by dsimp only; omega, runO_go hi1 hrun hst⟩ (by dsimp only; omega) ⟨congrArg (Value.int .i64) (by simp), trivial⟩ ?_ (fun _ s => ((((((((s.del 2).pull 1).pull 6).pull 6).pull 6).pull 6).pull 6).pull 6))
  exact Z2
 have hp1 := hb1
 (try simp only [bn] at hp1)
 have hi1 : i = xs.length := by omega
 refine Z2d ?_
 refine Z8 ?_
 refine Z15 ?_
 refine Zm ?_
 refine Z5k ?_
 refine Z1l ?_
 refine cd_loop2 (α := Nat) [(4, 5), (10, 10), (12, 12), (67, 76)] (fun x => [(10, .int .i64 (4611686018427387903 - sg (oA cur) x)), (67, .int .i64 (x : Int))]) (fun _ => _) (fun x => x ≤ cur.length ∧ sg (oA cur) x ≤ 4611686018427387903) (fun x => cur.length - x) 0 ⟨Nat.zero_le _, by show (0 : Int) ≤ _; decide⟩ ⟨rfl, rfl, trivial⟩ (fun _ s => s) ?_
 rintro j ⟨hj, hj0⟩ f; (try dsimp only at hj hj0 ⊢)
 refine Zx ?_
 refine cd_cond rfl (fun hb7 => ?_) (fun hb7 => ?_)
 ·have hp7 := hb7
  (try simp only [bn] at hp7)
  have hj1 : j < cur.length := by omega
  have hcv := oA_get hj1
  have hej := hent j
  have hs0 := sg_nonneg (f := oA cur) (m := j) (fun q _ => (hent q).1)
  have hsg := sg_succ (f := oA cur) (m := j)
  refine Z33 ?_
  refine oq (op_index j sB_42 rfl rfl rfl (rds_row 0 rfl rfl) (by simp; omega) (by omega)) ?_
  refine oq (op_ldw sc_3 (rds_row 0 rfl rfl) rfl (by omega) rfl) ?_
  refine Z1r ?_
  refine Z4 ?_
  refine Z2m ?_
  refine Z1r ?_
  refine Z3u ?_
  refine cd_cond rfl (fun hb8 => ?_) (fun hb8 => ?_)
  ·have hp8 := hb8
   (try simp only [bn] at hp8)
   refine Z0 ?_
   refine Zw ?_
   refine Zp ?_
   refine Z1z ?_
   have hnx : nextO t.nodes o xs = 1 := nextO_much (cur := cur) (by have := hrun; rwa [show i = xs.length by omega, List.take_length] at this) (by have := sg_mono (f := oA cur) (m := j + 1) (n := cur.length) (by omega) (fun q _ => (hent q).1); unfold tot; omega)
   exact px_ret2 rfl (v1 := .slice none 0 0) (v2 := .int _ 1) (l' := Row 3 encI64 (.slice none ([] : List Int).length 0) [] :: TreeObj pt t :: WRaw pw pt o sm be lf :: l) rfl rfl (fun _ s => Sat.rowNil ((Sat.wrawMk rfl rfl rfl rfl (s.del 0)).pull 1)) ⟨[], none, 0, by rw [hnx]; rfl, rfl, fun h => by rw [hnx] at h; cases h⟩
  have hp8 := hb8
  (try simp only [bn] at hp8)
  refine Z34 ?_
  refine px_loop2 (j + 1) ⟨by omega, by omega⟩ (by (try dsimp only); omega) ⟨congrArg (Value.int .i64) (by omega), congrArg (Value.int .i64) (by simp), trivial⟩ ?_ (fun _ s => s)
  exact Z2
 have hp7 := hb7
 (try simp only [bn] at hp7)
 refine Z2d ?_
 refine Zm ?_
 refine Zw ?_
 refine Zp ?_
 have hfin : runO t.nodes o xs = (0, cur) := by have := hrun; rwa [show i = xs.length by omega, List.take_length] at this
 have htt : tot cur < 4611686018427387904 := by unfold tot; rw [show j = cur.length by omega] at hj0; omega
 have hnx : nextO t.nodes o xs = 0 := nextO_ok hfin htt
 exact px_ret2 rfl (v1 := .slice _ _ _) (v2 := .int _ 0) (l' := Row 3 encI64 (.slice ao2 ([] ++ o).length ac2) cur :: TreeObj pt t :: WRaw pw pt o sm be lf :: l) rfl rfl (fun _ s => by
  have s2 : Sat _ _ (WRaw pw pt o sm be lf :: TreeObj pt t :: _ :: l) := Sat.wrawMk rfl rfl rfl rfl ((((((s.pull 6).pull 6).pull 6).pull 6).pull 6).pull 6)
  have s3 := s2.pull 1
  exact s3.pull 2) ⟨cur, _, _, by rw [hnx, hcl0], by rw [hcl0], fun _ => by rw [hfin]⟩
end Go.SL

