/-! The model of layer 1: numbers as bytes. Plain Lean. -/
namespace Go.SL
def putB (n : Nat) : Nat → List UInt8
  | 0 => []
  | k + 1 => putB n k ++ [UInt8.ofNat (n / 256 ^ k)]
def clamp8 (w : Int) : Nat := (min (max w 0) 8).toNat
def leNat : List UInt8 → Nat
  | [] => 0
  | b :: r => b.toNat + 256 * leNat r
structure RdS where
  rest : List UInt8
  short : Bool
def rdBytes (r : RdS) (n : Int) : List UInt8 × RdS :=
  if r.short = true ∨ n < 0 ∨ (r.rest.length : Int) < n then ([], ⟨[], true⟩) else (r.rest.take n.toNat, ⟨r.rest.drop n.toNat, false⟩)
def rdUint (r : RdS) (w : Int) : Nat × RdS :=
  let p := rdBytes r (if 8 < w then -1 else w)
  (leNat p.1, p.2)
theorem putB_length (n k : Nat) : (putB n k).length = k := by
  induction k with
  | zero => rfl
  | succ k ih => simp [putB, ih]
theorem clamp8_le (w : Int) : clamp8 w ≤ 8 := by unfold clamp8; omega
theorem clamp8_pred {wd : Int} (h : ¬ wd ≤ 0) : clamp8 wd = clamp8 ((if 8 < wd then 8 else wd) - 1) + 1 := by
  unfold clamp8; split <;> omega
theorem clamp8_if (w : Int) : (if 8 < (if w < 0 then 0 else w) then 8 else (if w < 0 then 0 else w)) = (clamp8 w : Int) := by
  unfold clamp8
  by_cases h : w < 0
  · simp only [h, if_true]; omega
  · simp only [h, if_false]; split <;> omega
theorem leNat_lt : ∀ l : List UInt8, leNat l < 256 ^ l.length
  | [] => by simp [leNat]
  | b :: r => by
    have h1 := leNat_lt r
    have h2 := b.toNat_lt
    simp only [leNat, List.length_cons, Nat.pow_succ]
    omega
theorem or_low (A b : Nat) (h : b < 256) : A * 2 ^ 8 ||| b = b + 256 * A := by
  have := Nat.shiftLeft_add_eq_or_of_lt (i := 8) (b := b) (by omega) A
  rw [Nat.shiftLeft_eq] at this
  omega
theorem leNat_drop (s : List UInt8) (j : Nat) (h : j < s.length) : leNat (s.drop j) = (s.getD j 0).toNat + 256 * leNat (s.drop (j + 1)) := by
  rw [List.drop_eq_getElem_cons h]
  simp [leNat, List.getD_eq_getElem?_getD, List.getElem?_eq_getElem h]
theorem leNat_take (s : List UInt8) (j : Nat) (h : j < s.length) : leNat (s.take (j + 1)) = leNat (s.take j) + 256 ^ j * (s.getD j 0).toNat := by
  induction s generalizing j with
  | nil => simp at h
  | cons a r ih =>
    cases j with
    | zero => simp [leNat]
    | succ j =>
      have := ih j (by simpa using h)
      simp only [List.take_succ_cons, leNat, this, List.getD_cons_succ, Nat.pow_succ, Nat.mul_add]
      rw [Nat.mul_comm (256 ^ j) 256, Nat.mul_assoc]
      omega
theorem rdBytes_len (r : RdS) (w : Int) : (rdBytes r (if 8 < w then -1 else w)).1.length ≤ 8 := by
  generalize hm : (if 8 < w then (-1 : Int) else w) = m
  have hm8 : m ≤ 8 := by split at hm <;> omega
  unfold rdBytes
  by_cases h : r.short = true ∨ m < 0 ∨ (r.rest.length : Int) < m
  · rw [if_pos h]; simp
  · rw [if_neg h]; dsimp only; rw [List.length_take]; omega
theorem rdBytes_suf {s : List UInt8} {r : RdS} (h : r.rest <:+ s) (n : Int) : (rdBytes r n).2.rest <:+ s := by
  unfold rdBytes
  split
  · exact List.nil_suffix
  · exact (List.drop_suffix _ _).trans h
theorem putB_cons (A k : Nat) : putB A (k + 1) = UInt8.ofNat (A % 256) :: putB (A / 256) k := by
  induction k with
  | zero => simp only [putB, Nat.pow_zero, Nat.div_one, List.nil_append, List.cons.injEq, and_true]; apply UInt8.toNat_inj.1; simp [UInt8.toNat_ofNat']
  | succ k ih => rw [putB, ih, putB]; simp [Nat.pow_succ, Nat.div_div_eq_div_mul, Nat.mul_comm]
theorem rdBytes_bad {r : RdS} {n : Int} (h : r.short = true ∨ n < 0 ∨ (r.rest.length : Int) < n) : rdBytes r n = ([], ⟨[], true⟩) := if_pos h
theorem rdBytes_ok {r : RdS} {n : Int} (h1 : r.short = false) (h2 : 0 ≤ n) (h3 : n ≤ r.rest.length) : rdBytes r n = (r.rest.take n.toNat, ⟨r.rest.drop n.toNat, false⟩) := if_neg (by simp [h1]; omega)
theorem suf_slice {s rest : List UInt8} (h : rest <:+ s) (n : Int) (h0 : 0 ≤ n) (h1 : n ≤ rest.length) : (s.take ((s.length : Int) - rest.length + n).toNat).drop (((s.length : Int) - rest.length + n - n).toNat) = rest.take n.toNat := by
  obtain ⟨t, rfl⟩ := h
  have e1 : (((t ++ rest).length : Int) - rest.length + n).toNat = t.length + n.toNat := by simp; omega
  have e2 : (((t ++ rest).length : Int) - rest.length + n - n).toNat = t.length := by simp
  rw [e1, e2, List.take_length_add_append, List.drop_left]
end Go.SL
