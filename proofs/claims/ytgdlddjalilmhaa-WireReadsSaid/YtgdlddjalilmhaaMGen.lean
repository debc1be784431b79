import Derived.Test.YtgdlddjalilmhaaEnk
set_option linter.unusedVariables false
set_option linter.unusedSimpArgs false
namespace Go.SL
/-! ### Genesis, in plain Lean -/
def valOK (v : Val) : Bool := decide (0 ≤ v.stake ∧ 1 ≤ v.key.length ∧ v.key.length ≤ 32)
/-- all stakes, from a sum on -/
def totF (s : Int) : List Val → Option Int
  | [] => some s
  | v :: r => if valOK v = true ∧ s + v.stake < 4611686018427387904 then totF (s + v.stake) r else none
theorem totF_drop {s : Int} {xs : List Val} {i : Nat} (h : i < xs.length) : totF s (xs.drop i) = if valOK xs[i] = true ∧ s + xs[i].stake < 4611686018427387904 then totF (s + xs[i].stake) (xs.drop (i + 1)) else none := by
  rw [List.drop_eq_getElem_cons h, totF]
theorem totF_end {s : Int} {xs : List Val} {i : Nat} (h : ¬ i < xs.length) : totF s (xs.drop i) = some s := by
  rw [List.drop_eq_nil_of_le (by omega), totF]
theorem totF_rg {s n : Int} {xs : List Val} (h0 : 0 ≤ s) (h1 : s < 4611686018427387904) (h : totF s xs = some n) : 0 ≤ n ∧ n < 4611686018427387904 := by
  induction xs generalizing s with
  | nil => rw [totF] at h; cases h; exact ⟨h0, h1⟩
  | cons v r ih =>
    rw [totF] at h
    split at h
    · rename_i hc
      have := of_decide_eq_true hc.1
      exact ih (by omega) (by omega) h
    · cases h
/-- the sum alone -/
def sumV : List Val → Int
  | [] => 0
  | v :: r => v.stake + sumV r
theorem totF_iff {s : Int} {xs : List Val} (h0 : 0 ≤ s) (h1 : s < 4611686018427387904) : totF s xs = if (∀ v ∈ xs, valOK v = true) ∧ s + sumV xs < 4611686018427387904 then some (s + sumV xs) else none := by
  induction xs generalizing s with
  | nil => rw [totF, if_pos ⟨fun v h => (by cases h), by simp [sumV]; exact h1⟩]; simp [sumV]
  | cons v r ih =>
    rw [totF]
    by_cases hv : valOK v = true
    · have hb := of_decide_eq_true hv
      by_cases hs : s + v.stake < 4611686018427387904
      · rw [if_pos ⟨hv, hs⟩, ih (by omega) hs]
        have e : s + v.stake + sumV r = s + sumV (v :: r) := by rw [sumV]; omega
        rw [e]
        by_cases hr : (∀ u ∈ r, valOK u = true) ∧ s + sumV (v :: r) < 4611686018427387904
        · rw [if_pos hr, if_pos ⟨fun u hu => by rcases List.mem_cons.1 hu with rfl | h; exact hv; exact hr.1 u h, hr.2⟩]
        · rw [if_neg hr, if_neg fun h => hr ⟨fun u hu => h.1 u (List.mem_cons_of_mem _ hu), h.2⟩]
      · rw [if_neg fun h => hs h.2, if_neg fun h => ?_]
        have h2 := h.2
        rw [sumV] at h2
        have : ∀ l : List Val, (∀ u ∈ l, valOK u = true) → 0 ≤ sumV l := by
          intro l
          induction l with
          | nil => intro _; simp [sumV]
          | cons a b ih2 =>
            intro hl
            have h3 := of_decide_eq_true (hl a List.mem_cons_self)
            have h4 := ih2 fun u hu => hl u (List.mem_cons_of_mem _ hu)
            rw [sumV]; omega
        have h5 := this r fun u hu => h.1 u (List.mem_cons_of_mem _ hu)
        omega
    · rw [if_neg fun h => hv h.1, if_neg fun h => hv (h.1 v List.mem_cons_self)]
theorem sumV_append (x y : List Val) : sumV (x ++ y) = sumV x + sumV y := by
  induction x with
  | nil => simp [sumV]
  | cons v r ih => rw [List.cons_append, sumV, sumV, ih]; omega
theorem sumV_nonneg {l : List Val} (hl : ∀ u ∈ l, valOK u = true) : 0 ≤ sumV l := by
  induction l with
  | nil => simp [sumV]
  | cons a b ih2 =>
    have h3 := of_decide_eq_true (hl a List.mem_cons_self)
    have h4 := ih2 fun u hu => hl u (List.mem_cons_of_mem _ hu)
    rw [sumV]; omega
/-- some, and the others: all -/
theorem totF_swap (x y : List Val) : totF 0 (y ++ x) = totF 0 (x ++ y) := by
  rw [totF_iff (by omega) (by omega), totF_iff (by omega) (by omega), sumV_append, sumV_append]
  have e : (∀ v ∈ y ++ x, valOK v = true) ↔ ∀ v ∈ x ++ y, valOK v = true := by
    constructor <;> intro h v hv <;> exact h v (by rcases List.mem_append.1 hv with h1 | h1 <;> simp [h1])
  have e2 : (0 : Int) + (sumV y + sumV x) = 0 + (sumV x + sumV y) := by omega
  rw [e2]
  by_cases h : (∀ v ∈ x ++ y, valOK v = true) ∧ 0 + (sumV x + sumV y) < 4611686018427387904
  · rw [if_pos h, if_pos ⟨e.2 h.1, h.2⟩]
  · rw [if_neg h, if_neg fun q => h ⟨e.1 q.1, q.2⟩]
theorem totF_parts (x y : List Val) : (∃ a b, totF 0 x = some a ∧ totF 0 y = some b ∧ ((totF 0 (x ++ y) = some (a + b) ∧ a + b < 4611686018427387904) ∨ (totF 0 (x ++ y) = none ∧ 4611686018427387904 ≤ a + b)) ∧ 0 ≤ a ∧ 0 ≤ b ∧ a < 4611686018427387904 ∧ b < 4611686018427387904) ∨
    ((totF 0 x = none ∨ totF 0 y = none) ∧ totF 0 (x ++ y) = none) := by
  have hx := totF_iff (s := 0) (xs := x) (by omega) (by omega)
  have hy := totF_iff (s := 0) (xs := y) (by omega) (by omega)
  have hxy := totF_iff (s := 0) (xs := x ++ y) (by omega) (by omega)
  rw [sumV_append] at hxy
  by_cases ax : ∀ v ∈ x, valOK v = true
  · have nx := sumV_nonneg ax
    by_cases ay : ∀ v ∈ y, valOK v = true
    · have ny := sumV_nonneg ay
      have axy : ∀ v ∈ x ++ y, valOK v = true := fun v hv => by rcases List.mem_append.1 hv with h | h; exact ax v h; exact ay v h
      by_cases bx : 0 + sumV x < 4611686018427387904
      · by_cases by_ : 0 + sumV y < 4611686018427387904
        · rw [if_pos ⟨ax, bx⟩] at hx
          rw [if_pos ⟨ay, by_⟩] at hy
          refine .inl ⟨_, _, hx, hy, ?_, by omega, by omega, by omega, by omega⟩
          by_cases bxy : 0 + (sumV x + sumV y) < 4611686018427387904
          · rw [if_pos ⟨axy, bxy⟩] at hxy
            exact .inl ⟨by rw [hxy]; congr 1; omega, by omega⟩
          · rw [if_neg fun h => bxy h.2] at hxy
            exact .inr ⟨hxy, by omega⟩
        · rw [if_neg fun h => by_ h.2] at hy
          rw [if_neg fun h => by have := h.2; omega] at hxy
          exact .inr ⟨.inr hy, hxy⟩
      · rw [if_neg fun h => bx h.2] at hx
        rw [if_neg fun h => by have := h.2; omega] at hxy
        exact .inr ⟨.inl hx, hxy⟩
    · rw [if_neg fun h => ay h.1] at hy
      rw [if_neg fun h => ay fun v hv => h.1 v (List.mem_append_right _ hv)] at hxy
      exact .inr ⟨.inr hy, hxy⟩
  · rw [if_neg fun h => ax h.1] at hx
    rw [if_neg fun h => ax fun v hv => h.1 v (List.mem_append_left _ hv)] at hxy
    exact .inr ⟨.inl hx, hxy⟩
/-- a configuration's numbers, each with what it is at most -/
def numsC (q : Cfg) (n : Nat) : List (Int × Int) :=
  [(q.epoch, 32), (q.committee, if (n : Int) < 16 then n else 16), (q.nodes, 256), (q.orphans, 64), (q.early, 64), (q.quota, 64), (q.peers, 16), (q.bytes, 256), (q.window, 64), (q.ban, 1048576), (q.decay, 1048576), ((n : Int), 64)]
def inR (p : Int × Int) : Bool := decide (1 ≤ p.1 ∧ p.1 ≤ p.2)
def goodC (q : Cfg) (xs : List Val) : Bool := (totF 0 xs).isSome && (numsC q xs.length).all inR
end Go.SL
namespace Go.SL
def greatC (xs : List Val) : Bool := decide (100 < xs.length) || xs.any fun v => decide (200 < v.key.length)
def idxB (xs : List Bool) (b : Bool) : Int := match xs.findIdx? (fun x => decide (b = x)) with | some i => (i : Int) | none => -1
theorem idxB_some {xs : List Bool} {b : Bool} {i : Nat} (hi : i < xs.length) (h : b = xs[i]) (hno : ∀ j (hj : j < xs.length), j < i → b ≠ xs[j]) : idxB xs b = i := by
  unfold idxB
  rw [List.findIdx?_eq_some_iff_getElem.2 ⟨hi, by simpa using h, fun j hj => by simpa using hno j (by omega) hj⟩]
theorem idxB_none {xs : List Bool} {b : Bool} (hno : ∀ j (hj : j < xs.length), b ≠ xs[j]) : idxB xs b = -1 := by
  unfold idxB
  rw [List.findIdx?_eq_none_iff.2]
  intro x hx
  obtain ⟨j, hj, rfl⟩ := List.mem_iff_getElem.1 hx
  simpa using hno j hj
theorem idxB_contains (xs : List Bool) (b : Bool) : decide (0 ≤ idxB xs b) = xs.contains b := by
  unfold idxB
  cases e : xs.findIdx? (fun x => decide (b = x)) with
  | none =>
    rw [List.findIdx?_eq_none_iff] at e
    symm
    dsimp only
    rw [show decide ((0 : Int) ≤ -1) = false by decide]
    rw [Bool.eq_false_iff]
    intro h
    rw [List.contains_iff_mem] at h
    have := e b h
    simp at this
  | some i =>
    obtain ⟨hi, h1, _⟩ := List.findIdx?_eq_some_iff_getElem.1 e
    dsimp only
    rw [decide_eq_true (by omega)]
    symm
    rw [List.contains_iff_mem]
    have : b = xs[i] := of_decide_eq_true h1
    rw [this]; exact List.getElem_mem hi
end Go.SL
