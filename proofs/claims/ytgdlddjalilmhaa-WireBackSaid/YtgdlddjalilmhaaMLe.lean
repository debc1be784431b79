set_option linter.unusedVariables false
/-! The model of layer 1: numbers as bytes. Plain Lean. -/
namespace Go.SL
def putB (n : Nat) : Nat → List UInt8
  | 0 => []
  | k + 1 => putB n k ++ [UInt8.ofNat (n / 256 ^ k)]
def clamp8 (w : Int) : Nat := (min (max w 0) 8).toNat
def leNat : List UInt8 → Nat
  | [] => 0
  | b :: r => b.toNat + 256 * leNat r
structure RdS where
  rest : List UInt8
  short : Bool
def rdBytes (r : RdS) (n : Int) : List UInt8 × RdS :=
  if r.short = true ∨ n < 0 ∨ (r.rest.length : Int) < n then ([], ⟨[], true⟩) else (r.rest.take n.toNat, ⟨r.rest.drop n.toNat, false⟩)
def rdUint (r : RdS) (w : Int) : Nat × RdS :=
  let p := rdBytes r (if 8 < w then -1 else w)
  (leNat p.1, p.2)
theorem putB_length (n k : Nat) : (putB n k).length = k := by
  induction k with
  | zero => rfl
  | succ k ih => simp [putB, ih]
theorem clamp8_le (w : Int) : clamp8 w ≤ 8 := by unfold clamp8; omega
theorem clamp8_pred {wd : Int} (h : ¬ wd ≤ 0) : clamp8 wd = clamp8 ((if 8 < wd then 8 else wd) - 1) + 1 := by
  unfold clamp8; split <;> omega
theorem clamp8_if (w : Int) : (if 8 < (if w < 0 then 0 else w) then 8 else (if w < 0 then 0 else w)) = (clamp8 w : Int) := by
  unfold clamp8
  by_cases h : w < 0
  · simp only [h, if_true]; omega
  · simp only [h, if_false]; split <;> omega
theorem leNat_lt : ∀ l : List UInt8, leNat l < 256 ^ l.length
  | [] => by simp [leNat]
  | b :: r => by
    have h1 := leNat_lt r
    have h2 := b.toNat_lt
    simp only [leNat, List.length_cons, Nat.pow_succ]
    omega
theorem or_low (A b : Nat) (h : b < 256) : A * 2 ^ 8 ||| b = b + 256 * A := by
  have := Nat.shiftLeft_add_eq_or_of_lt (i := 8) (b := b) (by omega) A
  rw [Nat.shiftLeft_eq] at this
  omega
theorem leNat_drop (s : List UInt8) (j : Nat) (h : j < s.length) : leNat (s.drop j) = (s.getD j 0).toNat + 256 * leNat (s.drop (j + 1)) := by
  rw [List.drop_eq_getElem_cons h]
  simp [leNat, List.getD_eq_getElem?_getD, List.getElem?_eq_getElem h]
theorem leNat_take (s : List UInt8) (j : Nat) (h : j < s.length) : leNat (s.take (j + 1)) = leNat (s.take j) + 256 ^ j * (s.getD j 0).toNat := by
  induction s generalizing j with
  | nil => simp at h
  | cons a r ih =>
    cases j with
    | zero => simp [leNat]
    | succ j =>
      have := ih j (by simpa using h)
      simp only [List.take_succ_cons, leNat, this, List.getD_cons_succ, Nat.pow_succ, Nat.mul_add]
      rw [Nat.mul_comm (256 ^ j) 256, Nat.mul_assoc]
      omega
theorem rdBytes_len (r : RdS) (w : Int) : (rdBytes r (if 8 < w then -1 else w)).1.length ≤ 8 := by
  generalize hm : (if 8 < w then (-1 : Int) else w) = m
  have hm8 : m ≤ 8 := by split at hm <;> omega
  unfold rdBytes
  by_cases h : r.short = true ∨ m < 0 ∨ (r.rest.length : Int) < m
  · rw [if_pos h]; simp
  · rw [if_neg h]; dsimp only; rw [List.length_take]; omega
theorem rdBytes_suf {s : List UInt8} {r : RdS} (h : r.rest <:+ s) (n : Int) : (rdBytes r n).2.rest <:+ s := by
  unfold rdBytes
  split
  · exact List.nil_suffix
  · exact (List.drop_suffix _ _).trans h
theorem putB_cons (A k : Nat) : putB A (k + 1) = UInt8.ofNat (A % 256) :: putB (A / 256) k := by
  induction k with
  | zero => simp only [putB, Nat.pow_zero, Nat.div_one, List.nil_append, List.cons.injEq, and_true]; apply UInt8.toNat_inj.1; simp [UInt8.toNat_ofNat']
  | succ k ih => rw [putB, ih, putB]; simp [Nat.pow_succ, Nat.div_div_eq_div_mul, Nat.mul_comm]
theorem rdBytes_bad {r : RdS} {n : Int} (h : r.short = true ∨ n < 0 ∨ (r.rest.length : Int) < n) : rdBytes r n = ([], ⟨[], true⟩) := if_pos h
theorem rdBytes_ok {r : RdS} {n : Int} (h1 : r.short = false) (h2 : 0 ≤ n) (h3 : n ≤ r.rest.length) : rdBytes r n = (r.rest.take n.toNat, ⟨r.rest.drop n.toNat, false⟩) := if_neg (by simp [h1]; omega)
theorem suf_slice {s rest : List UInt8} (h : rest <:+ s) (n : Int) (h0 : 0 ≤ n) (h1 : n ≤ rest.length) : (s.take ((s.length : Int) - rest.length + n).toNat).drop (((s.length : Int) - rest.length + n - n).toNat) = rest.take n.toNat := by
  obtain ⟨t, rfl⟩ := h
  have e1 : (((t ++ rest).length : Int) - rest.length + n).toNat = t.length + n.toNat := by simp; omega
  have e2 : (((t ++ rest).length : Int) - rest.length + n - n).toNat = t.length := by simp
  rw [e1, e2, List.take_length_add_append, List.drop_left]
theorem clamp8_of {w : Int} (h0 : 0 ≤ w) (h8 : w ≤ 8) : (clamp8 w : Int) = w := by unfold clamp8; omega
theorem putB_take (A : Nat) : ∀ (m k : Nat), k ≤ m → (putB A m).take k = putB A k
  | 0, k, h => by obtain rfl : k = 0 := by omega
                  rfl
  | m + 1, k, h => by
    rcases Nat.lt_or_ge k (m + 1) with h1 | h1
    · rw [putB, List.take_append_of_le_length (by rw [putB_length]; omega), putB_take A m k (by omega)]
    · obtain rfl : k = m + 1 := by omega
      rw [List.take_of_length_le (by rw [putB_length]; omega)]
theorem joins_bad {s : List UInt8} {a b : Int} (ha : 0 ≤ a) (hb : 0 ≤ b) (h : (s.length : Int) < a + b) :
    rdBytes (rdBytes ⟨s, false⟩ a).2 b = ([], ⟨[], true⟩) ∧ rdBytes ⟨s, false⟩ (a + b) = ([], ⟨[], true⟩) := by
  refine ⟨?_, rdBytes_bad (by right; right; exact h)⟩
  by_cases h1 : (s.length : Int) < a
  · rw [rdBytes_bad (r := ⟨s, false⟩) (n := a) (by right; right; exact h1)]
    exact rdBytes_bad (.inl rfl)
  · rw [rdBytes_ok (r := ⟨s, false⟩) (n := a) rfl ha (by dsimp only; omega)]
    refine rdBytes_bad (.inr (.inr ?_))
    simp only [List.length_drop]
    omega
theorem joins_ok {s : List UInt8} {a b : Int} (ha : 0 ≤ a) (hb : 0 ≤ b) (h : a + b ≤ s.length) :
    (rdBytes ⟨s, false⟩ a).1 = s.take a.toNat ∧ rdBytes (rdBytes ⟨s, false⟩ a).2 b = ((s.drop a.toNat).take b.toNat, ⟨s.drop (a + b).toNat, false⟩) ∧ rdBytes ⟨s, false⟩ (a + b) = (s.take (a + b).toNat, ⟨s.drop (a + b).toNat, false⟩) := by
  have e : rdBytes ⟨s, false⟩ a = _ := rdBytes_ok (r := ⟨s, false⟩) (n := a) rfl ha (by dsimp only; omega)
  refine ⟨by rw [e], ?_, rdBytes_ok (r := ⟨s, false⟩) rfl (by omega) h⟩
  rw [e, rdBytes_ok (r := ⟨s.drop a.toNat, false⟩) rfl hb (by simp only [List.length_drop]; omega)]
  simp only [List.drop_drop, Prod.mk.injEq, RdS.mk.injEq, true_and, and_true]
  congr 1
  omega
theorem take_add_toNat {s : List UInt8} {a b : Int} (ha : 0 ≤ a) (hb : 0 ≤ b) : s.take a.toNat ++ (s.drop a.toNat).take b.toNat = s.take (a + b).toNat := by
  rw [show (a + b).toNat = a.toNat + b.toNat by omega, List.take_add]
def puts (k : Nat) (xs : List Nat) : List UInt8 := xs.flatMap fun x => putB x k
theorem puts_length (k : Nat) (xs : List Nat) : (puts k xs).length = k * xs.length := by
  induction xs with
  | nil => simp [puts]
  | cons x xs ih =>
    have : puts k (x :: xs) = putB x k ++ puts k xs := rfl
    rw [this, List.length_append, putB_length, ih, List.length_cons, Nat.mul_succ, Nat.add_comm]
theorem puts_take (k : Nat) (xs : List Nat) (i : Nat) (h : i < xs.length) : puts k (xs.take i) ++ putB xs[i] k = puts k (xs.take (i + 1)) := by
  rw [List.take_succ_eq_append_getElem h]
  simp only [puts, List.flatMap_append, List.flatMap_cons, List.flatMap_nil, List.append_nil]
theorem pow256 (k : Nat) : 256 ^ k = 2 ^ (8 * k) := by rw [Nat.pow_mul]
theorem leNat_putB (A : Nat) : ∀ k, leNat (putB A k) = A % 256 ^ k
  | 0 => by simp [putB, leNat, Nat.mod_one]
  | k + 1 => by
    have h := leNat_putB (A / 256) k
    rw [putB_cons, leNat, h]
    have h1 : (UInt8.ofNat (A % 256)).toNat = A % 256 := by simp [UInt8.toNat_ofNat']
    rw [h1, Nat.pow_succ, Nat.mul_comm (256 ^ k) 256, Nat.mod_mul]
theorem putB_mod (A k : Nat) : putB (A % 256 ^ k) k = putB A k := by
  suffices h : ∀ k m, k ≤ m → putB (A % 256 ^ m) k = putB A k from h k k (Nat.le_refl _)
  intro k
  induction k with
  | zero => exact fun m h => rfl
  | succ k ih =>
    intro m hm
    rw [putB, putB, ih m (by omega)]
    congr 2
    apply UInt8.toNat_inj.1
    simp only [UInt8.toNat_ofNat']
    obtain ⟨d, rfl⟩ : ∃ d, m = k + (d + 1) := ⟨m - k - 1, by omega⟩
    rw [Nat.pow_add, Nat.mod_mul_right_div_self, Nat.pow_succ, Nat.mul_comm (256 ^ d) 256]
    exact Nat.mod_mul_right_mod _ 256 _
theorem puts_read (k : Nat) (xs : List Nat) (j : Nat) (h : j < xs.length) (hk : k ≤ 8) : rdUint ⟨puts k (xs.drop j), false⟩ (k : Int) = (xs[j] % 256 ^ k, ⟨puts k (xs.drop (j + 1)), false⟩) := by
  have e : puts k (xs.drop j) = putB xs[j] k ++ puts k (xs.drop (j + 1)) := by rw [List.drop_eq_getElem_cons h]; rfl
  unfold rdUint
  rw [if_neg (by omega), rdBytes_ok (r := ⟨puts k (xs.drop j), false⟩) rfl (by omega) (by dsimp only; rw [e, List.length_append, putB_length]; omega)]
  have e2 : (k : Int).toNat = (putB xs[j] k).length := by rw [putB_length]; omega
  simp only [e, e2, List.take_left, List.drop_left, leNat_putB]
end Go.SL
