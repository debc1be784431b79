import Derived.Test.YtgdlddjalilmhaaMLe
set_option linter.unusedVariables false
set_option linter.unusedSimpArgs false
/-! The model of layer 2: rows of yes and no as bytes. Plain Lean. -/
namespace Go.SL
def low : List Bool → Nat
  | [] => 0
  | b :: r => b.toNat + 2 * low r
theorem low_lt : ∀ l : List Bool, low l < 2 ^ l.length
  | [] => by simp [low]
  | b :: r => by
    have h1 := low_lt r
    have h2 : b.toNat ≤ 1 := Bool.toNat_le b
    simp only [low, List.length_cons, Nat.pow_succ]
    omega
theorem low_snoc (l : List Bool) (b : Bool) : low (l ++ [b]) = low l + b.toNat * 2 ^ l.length := by
  induction l with
  | nil => simp [low]
  | cons a l ih =>
    simp only [List.cons_append, low, ih, List.length_cons, Nat.pow_succ, Nat.mul_add]
    rw [show b.toNat * (2 ^ l.length * 2) = 2 * (b.toNat * 2 ^ l.length) by rw [← Nat.mul_assoc, Nat.mul_comm]]
    omega
theorem low_take (xs : List Bool) (i : Nat) (h : i < xs.length) : low (xs.take (i + 1)) = low (xs.take i) + xs[i].toNat * 2 ^ i := by
  rw [List.take_succ_eq_append_getElem h, low_snoc, List.length_take, Nat.min_eq_left (by omega)]
theorem low_take_lt (xs : List Bool) (i : Nat) : low (xs.take i) < 2 ^ i :=
  Nat.lt_of_lt_of_le (low_lt _) (Nat.pow_le_pow_right (by decide) (by rw [List.length_take]; omega))
theorem low_inj : ∀ {a b : List Bool}, a.length = b.length → low a = low b → a = b
  | [], [], _, _ => rfl
  | [], _ :: _, h, _ => by simp at h
  | _ :: _, [], h, _ => by simp at h
  | x :: a, y :: b, h, e => by
    simp only [low] at e
    have h1 : x.toNat ≤ 1 := Bool.toNat_le x
    have h2 : y.toNat ≤ 1 := Bool.toNat_le y
    have h3 : low a = low b := by omega
    have h4 : x.toNat = y.toNat := by omega
    rw [low_inj (by simpa using h) h3]
    congr 1
    cases x <;> cases y <;> simp_all
def num (l : List Bool) : Nat := low l + 2 ^ l.length
theorem num_lt (l : List Bool) : num l < 2 ^ (l.length + 1) := by
  have := low_lt l
  unfold num
  rw [Nat.pow_succ]
  omega
theorem num_inj {a b : List Bool} (h : num a = num b) : a = b := by
  have ha := num_lt a
  have hb := num_lt b
  have ga : 2 ^ a.length ≤ num a := Nat.le_add_left _ _
  have gb : 2 ^ b.length ≤ num b := Nat.le_add_left _ _
  have h1 : a.length = b.length := by
    rcases Nat.lt_trichotomy a.length b.length with h1 | h1 | h1
    · have := Nat.pow_le_pow_right (show 0 < 2 by decide) (show a.length + 1 ≤ b.length by omega)
      omega
    · exact h1
    · have := Nat.pow_le_pow_right (show 0 < 2 by decide) (show b.length + 1 ≤ a.length by omega)
      omega
  refine low_inj h1 ?_
  unfold num at h
  rw [h1] at h
  omega
theorem putB_get (A : Nat) : ∀ (K j : Nat), j < K → (putB A K)[j]? = some (UInt8.ofNat (A / 256 ^ j))
  | K + 1, j, h => by
    rw [putB]
    rcases Nat.lt_or_ge j K with h1 | h1
    · rw [List.getElem?_append_left (by rw [putB_length]; exact h1)]
      exact putB_get A K j h1
    · obtain rfl : j = K := by omega
      rw [List.getElem?_append_right (by rw [putB_length]; omega), putB_length]
      simp
theorem putB_zero : ∀ K, putB 0 K = List.replicate K 0
  | 0 => rfl
  | K + 1 => by rw [putB, putB_zero K, List.replicate_succ']; simp
theorem ofNat_mod (a : Nat) : UInt8.ofNat (a % 256) = UInt8.ofNat a := by
  apply UInt8.toNat_inj.1
  simp
theorem or_pow (M k : Nat) (h : M < 2 ^ k) : M ||| 2 ^ k = M + 2 ^ k := by
  have := Nat.shiftLeft_add_eq_or_of_lt h 1
  rw [Nat.shiftLeft_eq, Nat.one_mul] at this
  rw [Nat.or_comm, ← this, Nat.add_comm]
theorem split_pow (i : Nat) : 2 ^ i = 256 ^ (i / 8) * 2 ^ (i % 8) := by
  rw [pow256, ← Nat.pow_add]
  congr 1
  omega
theorem put_set (bs : List UInt8) (M K i : Nat) (hi : i / 8 < K) (hM : M < 2 ^ i) (h : bs.length + i / 8 < (bs ++ putB M K).length) :
    (bs ++ putB M K).set (bs.length + i / 8) ((bs ++ putB M K)[bs.length + i / 8] ||| UInt8.ofNat (1 * 2 ^ (i % 8))) = bs ++ putB (M + 2 ^ i) K := by
  have hget : (bs ++ putB M K)[bs.length + i / 8] = UInt8.ofNat (M / 256 ^ (i / 8)) := by
    have h1 : (bs ++ putB M K)[bs.length + i / 8]? = some (UInt8.ofNat (M / 256 ^ (i / 8))) := by
      rw [List.getElem?_append_right (by omega), Nat.add_sub_cancel_left]
      exact putB_get M K _ hi
    rw [List.getElem?_eq_getElem h] at h1
    exact Option.some.inj h1
  have hq : M / 256 ^ (i / 8) < 2 ^ (i % 8) := by
    rw [Nat.div_lt_iff_lt_mul (Nat.pow_pos (by decide)), Nat.mul_comm, ← split_pow]; exact hM
  have hm8 : 2 ^ (i % 8) ≤ 128 := by
    have := Nat.pow_le_pow_right (show 0 < 2 by decide) (show i % 8 ≤ 7 by omega)
    exact this
  have hv : UInt8.ofNat (M / 256 ^ (i / 8)) ||| UInt8.ofNat (1 * 2 ^ (i % 8)) = UInt8.ofNat ((M + 2 ^ i) / 256 ^ (i / 8)) := by
    rw [split_pow i, Nat.add_mul_div_left _ _ (Nat.pow_pos (by decide)), ← or_pow _ _ hq, Nat.one_mul]
    apply UInt8.toNat_inj.1
    rw [UInt8.toNat_or]
    have e1 : (UInt8.ofNat (M / 256 ^ (i / 8))).toNat = M / 256 ^ (i / 8) := by simp [UInt8.toNat_ofNat']; omega
    have e2 : (UInt8.ofNat (2 ^ (i % 8))).toNat = 2 ^ (i % 8) := by simp only [UInt8.toNat_ofNat']; omega
    rw [e1, e2]
    have e3 := or_pow _ _ hq
    rw [e3]
    simp only [UInt8.toNat_ofNat']
    omega
  rw [hget, hv, List.set_append_right _ _ (by omega), Nat.add_sub_cancel_left]
  congr 1
  apply List.ext_getElem?
  intro j
  rcases Nat.lt_or_ge j K with hj | hj
  · rw [putB_get _ _ _ hj]
    rcases Nat.lt_trichotomy j (i / 8) with h1 | h1 | h1
    · rw [List.getElem?_set_ne (by omega), putB_get _ _ _ hj]
      congr 1
      obtain ⟨d, hd⟩ : ∃ d, i / 8 = j + (d + 1) := ⟨i / 8 - j - 1, by omega⟩
      rw [← ofNat_mod (M / 256 ^ j), ← ofNat_mod ((M + 2 ^ i) / 256 ^ j)]
      congr 1
      have e : 2 ^ i = 256 ^ j * (256 * (256 ^ d * 2 ^ (i % 8))) := by
        rw [split_pow i, hd, Nat.pow_add, Nat.pow_succ]
        simp only [Nat.mul_assoc, Nat.mul_comm, Nat.mul_left_comm]
      rw [e, Nat.add_mul_div_left _ _ (Nat.pow_pos (by decide)), Nat.add_mul_mod_self_left]
    · subst h1
      rw [List.getElem?_set_self (by rw [putB_length]; omega)]
    · rw [List.getElem?_set_ne (by omega), putB_get _ _ _ hj]
      have hb : 2 ^ (i + 1) ≤ 256 ^ j := by
        rw [pow256]
        exact Nat.pow_le_pow_right (by decide) (by omega)
      rw [Nat.pow_succ] at hb
      rw [Nat.div_eq_of_lt (by omega), Nat.div_eq_of_lt (by omega)]
  · rw [List.getElem?_eq_none (by rw [List.length_set, putB_length]; exact hj), List.getElem?_eq_none (by rw [putB_length]; exact hj)]
def enc8 (l : List Bool) : List UInt8 := putB (num l) (l.length / 8 + 1)
theorem enc8_length (l : List Bool) : (enc8 l).length = l.length / 8 + 1 := putB_length _ _
theorem leNat_enc8 (l : List Bool) : leNat (enc8 l) = num l := by
  unfold enc8
  rw [leNat_putB, Nat.mod_eq_of_lt]
  refine Nat.lt_of_lt_of_le (num_lt l) ?_
  rw [pow256]
  exact Nat.pow_le_pow_right (by decide) (by omega)
theorem enc8_inj {a b : List Bool} (h : enc8 a = enc8 b) : a = b := num_inj (by rw [← leNat_enc8, ← leNat_enc8, h])
def bitsOf (N : Nat) : Nat → List Bool
  | 0 => []
  | n + 1 => bitsOf N n ++ [decide (N / 2 ^ n % 2 = 1)]
theorem bitsOf_length (N n : Nat) : (bitsOf N n).length = n := by
  induction n with
  | zero => rfl
  | succ n ih => simp [bitsOf, ih]
theorem low_bitsOf (N n : Nat) : low (bitsOf N n) = N % 2 ^ n := by
  induction n with
  | zero => simp [bitsOf, low, Nat.mod_one]
  | succ n ih =>
    rw [bitsOf, low_snoc, ih, bitsOf_length, Nat.pow_succ, Nat.mod_mul]
    have : (decide (N / 2 ^ n % 2 = 1)).toNat = N / 2 ^ n % 2 := by
      rcases Nat.mod_two_eq_zero_or_one (N / 2 ^ n) with h | h <;> simp [h]
    rw [this, Nat.mul_comm]
theorem bitsOf_low (l : List Bool) (N : Nat) (h : N % 2 ^ l.length = low l) : bitsOf N l.length = l :=
  low_inj (bitsOf_length _ _) (by rw [low_bitsOf, h])
theorem bitsOf_num (l : List Bool) : bitsOf (num l) l.length = l := bitsOf_low l _ (by
  unfold num
  rw [Nat.add_mod_right, Nat.mod_eq_of_lt (low_lt l)])
/-- how many places a row of bytes has -/
def len8 (n : Nat) : Nat := if n = 0 then 0 else Nat.log2 n + 1
def lastB (s : List UInt8) : UInt8 := s.getD (s.length - 1) 0
def rowLen (s : List UInt8) : Nat := 8 * (s.length - 1) + (len8 (lastB s).toNat - 1)
/-- Get: the row; none: there is none -/
def getB (s : List UInt8) (most : Int) : Option (List Bool) :=
  if s = [] ∨ lastB s = 0 ∨ most < rowLen s then none else some (bitsOf (leNat s) (rowLen s))
theorem enc8_full (xs : List Bool) : putB (low xs + 2 ^ xs.length) (xs.length / 8 + 1) = enc8 xs := rfl
theorem low_step (xs : List Bool) (i : Nat) (h : i < xs.length) : low (xs.take (i + 1)) = if xs[i] = true then low (xs.take i) + 2 ^ i else low (xs.take i) := by
  rw [low_take xs i h]
  cases xs[i] <;> simp
theorem leNat_byte : ∀ (s : List UInt8) (j : Nat), leNat s / 256 ^ j % 256 = (s.getD j 0).toNat
  | [], j => by simp [leNat]
  | b :: r, 0 => by
    have := b.toNat_lt
    simp only [leNat, Nat.pow_zero, Nat.div_one, List.getD_cons_zero]
    omega
  | b :: r, j + 1 => by
    have := b.toNat_lt
    rw [List.getD_cons_succ, ← leNat_byte r j, Nat.pow_succ, Nat.mul_comm, ← Nat.div_div_eq_div_mul]
    congr 2
    simp only [leNat]
    omega
theorem bit_mod (x r : Nat) (h : r < 8) : x / 2 ^ r % 2 = x % 256 / 2 ^ r % 2 := by
  have : r = 0 ∨ r = 1 ∨ r = 2 ∨ r = 3 ∨ r = 4 ∨ r = 5 ∨ r = 6 ∨ r = 7 := by omega
  rcases this with rfl | rfl | rfl | rfl | rfl | rfl | rfl | rfl <;> simp only [Nat.reducePow] <;> omega
theorem bit_of (s : List UInt8) (i : Nat) : leNat s / 2 ^ i % 2 = (s.getD (i / 8) 0).toNat / 2 ^ (i % 8) % 2 := by
  rw [split_pow i, ← Nat.div_div_eq_div_mul, bit_mod _ _ (by omega), leNat_byte]
theorem bits_set (N n i : Nat) (h : i < n) : (bitsOf N i ++ List.replicate (n - i) false).set i (decide (N / 2 ^ i % 2 = 1)) = bitsOf N (i + 1) ++ List.replicate (n - (i + 1)) false := by
  obtain ⟨d, rfl⟩ : ∃ d, n = i + (d + 1) := ⟨n - i - 1, by omega⟩
  rw [List.set_append_right _ _ (by rw [bitsOf_length]; exact Nat.le_refl _), bitsOf_length, show i + (d + 1) - i = d + 1 by omega, show i + (d + 1) - (i + 1) = d by omega, Nat.sub_self, List.replicate_succ, List.set_cons_zero, bitsOf, List.append_assoc]
  rfl
theorem len8_pos {n : Nat} (h : n ≠ 0) : 1 ≤ len8 n := by unfold len8; rw [if_neg h]; omega
theorem len8_le {n : Nat} (h : n < 256) : len8 n ≤ 8 := by
  unfold len8
  split
  · omega
  · rename_i h0
    have := (Nat.log2_lt h0).2 (show n < 2 ^ 8 from h)
    omega
theorem len8_key (t : List UInt8) (ht : t = (List.range 256).map (fun n => UInt8.ofNat (len8 n))) (n : Nat) (h : n < 256) : (((t.getD n 0).toNat : Nat) : Int) = len8 n := by
  subst ht
  have h8 := len8_le h
  rw [List.getD_eq_getElem?_getD, List.getElem?_map, List.getElem?_range h]
  simp [UInt8.toNat_ofNat']
  omega
def getD' (s : List UInt8) (most : Int) : List Bool := (getB s most).getD []
theorem rowLen_eq (s : List UInt8) (h : s ≠ []) (hc : (s.getD (s.length - 1) 0).toNat ≠ 0) : (rowLen s : Int) = 8 * ((s.length : Int) - 1) + (len8 (s.getD (s.length - 1) 0).toNat : Nat) - 1 ∧ rowLen s ≤ 8 * (s.length - 1) + 7 ∧ 1 ≤ s.length := by
  have h1 := len8_pos hc
  have h2 := len8_le (s.getD (s.length - 1) 0).toNat_lt
  have h3 : s.length ≠ 0 := fun h0 => h (List.eq_nil_of_length_eq_zero h0)
  have h4 : rowLen s = 8 * (s.length - 1) + (len8 (s.getD (s.length - 1) 0).toNat - 1) := rfl
  omega
theorem getB_none {s : List UInt8} {most : Int} (h : s = [] ∨ (s.getD (s.length - 1) 0).toNat = 0 ∨ most < rowLen s) : getB s most = none := by
  unfold getB
  rw [if_pos]
  rcases h with h | h | h
  · exact .inl h
  · exact .inr (.inl (UInt8.toNat_inj.1 h))
  · exact .inr (.inr h)
theorem getB_some {s : List UInt8} {most : Int} (h1 : s ≠ []) (h2 : (s.getD (s.length - 1) 0).toNat ≠ 0) (h3 : (rowLen s : Int) ≤ most) : getB s most = some (bitsOf (leNat s) (rowLen s)) := by
  unfold getB
  rw [if_neg]
  rintro (h | h | h)
  · exact h1 h
  · exact h2 (by have : s.getD (s.length - 1) 0 = 0 := h
                 rw [this]; rfl)
  · omega
/-- where a row says yes -/
def places : List Bool → Nat → List Int
  | [], _ => []
  | b :: r, k => (if b = true then [(k : Int)] else []) ++ places r (k + 1)
theorem places_snoc (l : List Bool) (b : Bool) (k : Nat) : places (l ++ [b]) k = places l k ++ (if b = true then [((k + l.length : Nat) : Int)] else []) := by
  induction l generalizing k with
  | nil => simp [places]
  | cons a l ih =>
    simp only [List.cons_append, places, ih, List.length_cons, List.append_assoc]
    congr 3
    congr 2
    omega
theorem places_take (xs : List Bool) (i : Nat) (h : i < xs.length) : places (xs.take (i + 1)) 0 = if xs[i] = true then places (xs.take i) 0 ++ [(i : Int)] else places (xs.take i) 0 := by
  rw [List.take_succ_eq_append_getElem h, places_snoc, List.length_take, Nat.min_eq_left (by omega), Nat.zero_add]
  split <;> simp
theorem places_len (l : List Bool) (k : Nat) : (places l k).length ≤ l.length := by
  induction l generalizing k with
  | nil => simp [places]
  | cons b r ih =>
    have := ih (k + 1)
    simp only [places, List.length_append, List.length_cons]
    split <;> simp <;> omega
theorem rowLen_enc8 (l : List Bool) : rowLen (enc8 l) = l.length ∧ ((enc8 l).getD ((enc8 l).length - 1) 0).toNat ≠ 0 := by
  have h1 := num_lt l
  have h2 : 2 ^ l.length ≤ num l := Nat.le_add_left _ _
  have hK := enc8_length l
  have hlast : ((enc8 l).getD ((enc8 l).length - 1) 0) = UInt8.ofNat (num l / 256 ^ (l.length / 8)) := by
    rw [List.getD_eq_getElem?_getD, hK, Nat.add_sub_cancel]
    unfold enc8
    rw [putB_get _ _ _ (by omega)]
    rfl
  have hpos : 0 < 256 ^ (l.length / 8) := Nat.pow_pos (by decide)
  have ha : 2 ^ (l.length % 8) ≤ num l / 256 ^ (l.length / 8) := by
    rw [Nat.le_div_iff_mul_le hpos, Nat.mul_comm, ← split_pow]; exact h2
  have hb : num l / 256 ^ (l.length / 8) < 2 ^ (l.length % 8 + 1) := by
    rw [Nat.div_lt_iff_lt_mul hpos, Nat.pow_succ, Nat.mul_right_comm, Nat.mul_comm (2 ^ (l.length % 8)), ← split_pow, ← Nat.pow_succ]; exact h1
  have hc : 2 ^ (l.length % 8 + 1) ≤ 256 := Nat.pow_le_pow_right (show 0 < 2 by decide) (show l.length % 8 + 1 ≤ 8 by omega)
  have hd : (UInt8.ofNat (num l / 256 ^ (l.length / 8))).toNat = num l / 256 ^ (l.length / 8) := by simp only [UInt8.toNat_ofNat']; omega
  have h0 : 0 < 2 ^ (l.length % 8) := Nat.pow_pos (by decide)
  have hne : num l / 256 ^ (l.length / 8) ≠ 0 := by omega
  have hlog : Nat.log2 (num l / 256 ^ (l.length / 8)) = l.length % 8 := by
    have e1 := (Nat.log2_lt hne).2 hb
    have e2 : ¬ Nat.log2 (num l / 256 ^ (l.length / 8)) < l.length % 8 := fun h => by
      have := (Nat.log2_lt hne).1 h
      omega
    omega
  refine ⟨?_, by rw [hlast, hd]; exact hne⟩
  have : rowLen (enc8 l) = 8 * ((enc8 l).length - 1) + (len8 ((enc8 l).getD ((enc8 l).length - 1) 0).toNat - 1) := rfl
  rw [this, hlast, hd, hK]
  unfold len8
  rw [if_neg hne, hlog]
  omega
theorem enc8_ne (l : List Bool) : enc8 l ≠ [] := fun h => by have := enc8_length l; rw [h] at this; simp at this
theorem getB_enc8 (l : List Bool) (most : Int) (h : (l.length : Int) ≤ most) : getB (enc8 l) most = some l := by
  obtain ⟨h1, h2⟩ := rowLen_enc8 l
  rw [getB_some (enc8_ne l) h2 (by rw [h1]; exact h), h1, leNat_enc8, bitsOf_num]
theorem getB_enc8_no (l : List Bool) (most : Int) (h : most < l.length) : getB (enc8 l) most = none :=
  getB_none (.inr (.inr (by rw [(rowLen_enc8 l).1]; exact h)))
theorem putB_leNat : ∀ s : List UInt8, putB (leNat s) s.length = s
  | [] => rfl
  | b :: r => by
    have hb := b.toNat_lt
    rw [List.length_cons, putB_cons, leNat, show (b.toNat + 256 * leNat r) / 256 = leNat r by omega, putB_leNat r]
    congr 1
    apply UInt8.toNat_inj.1
    simp only [UInt8.toNat_ofNat']
    omega
theorem leNat_last (s : List UInt8) (h : s ≠ []) : leNat s / 256 ^ (s.length - 1) = (s.getD (s.length - 1) 0).toNat := by
  have h1 := leNat_byte s (s.length - 1)
  have h2 := leNat_lt s
  have h3 : s.length ≠ 0 := fun h0 => h (List.eq_nil_of_length_eq_zero h0)
  rw [← h1, Nat.mod_eq_of_lt]
  rw [Nat.div_lt_iff_lt_mul (Nat.pow_pos (by decide)), Nat.mul_comm, ← Nat.pow_succ, show (s.length - 1).succ = s.length by omega]
  exact h2
theorem getB_back {s : List UInt8} {most : Int} (h : (getB s most).isSome = true) : enc8 (getD' s most) = s ∧ ((getD' s most).length : Int) ≤ most := by
  have hn : ¬ (s = [] ∨ lastB s = 0 ∨ most < rowLen s) := fun h0 => by
    have : getB s most = none := if_pos h0
    rw [this] at h; cases h
  have hs : s ≠ [] := fun h0 => hn (.inl h0)
  have hc : (s.getD (s.length - 1) 0).toNat ≠ 0 := fun h0 => hn (.inr (.inl (UInt8.toNat_inj.1 h0)))
  have hm : (rowLen s : Int) ≤ most := Int.not_lt.1 fun h0 => hn (.inr (.inr h0))
  have e : getD' s most = bitsOf (leNat s) (rowLen s) := by unfold getD'; rw [getB_some hs hc hm]; rfl
  have hl3 : s.length ≠ 0 := fun h0 => hs (List.eq_nil_of_length_eq_zero h0)
  have hlen8 : len8 (s.getD (s.length - 1) 0).toNat = Nat.log2 (s.getD (s.length - 1) 0).toNat + 1 := by unfold len8; rw [if_neg hc]
  have hk : Nat.log2 (s.getD (s.length - 1) 0).toNat < 8 := (Nat.log2_lt hc).2 (UInt8.toNat_lt _)
  have hr : rowLen s = 8 * (s.length - 1) + Nat.log2 (s.getD (s.length - 1) 0).toNat := by
    have : rowLen s = 8 * (s.length - 1) + (len8 (s.getD (s.length - 1) 0).toNat - 1) := rfl
    omega
  have hlast := leNat_last s hs
  have hlo : 2 ^ rowLen s ≤ leNat s := by
    have h1 := Nat.log2_self_le hc
    rw [← hlast] at h1 hr
    rw [hr, Nat.pow_add, ← pow256, Nat.mul_comm]
    exact (Nat.le_div_iff_mul_le (Nat.pow_pos (by decide))).1 h1
  have hhi : leNat s < 2 ^ (rowLen s + 1) := by
    have h1 : (s.getD (s.length - 1) 0).toNat < 2 ^ (Nat.log2 (s.getD (s.length - 1) 0).toNat + 1) := (Nat.log2_lt hc).1 (Nat.lt_succ_self _)
    rw [← hlast] at h1 hr
    rw [hr, Nat.add_assoc, Nat.pow_add, ← pow256, Nat.mul_comm]
    exact (Nat.div_lt_iff_lt_mul (Nat.pow_pos (by decide))).1 h1
  have hnum : num (bitsOf (leNat s) (rowLen s)) = leNat s := by
    unfold num
    rw [low_bitsOf, bitsOf_length]
    rw [Nat.pow_succ] at hhi
    have h1 : leNat s = 2 ^ rowLen s + (leNat s - 2 ^ rowLen s) := by omega
    rw [h1, Nat.add_mod_left, Nat.mod_eq_of_lt (by omega)]
    omega
  rw [e]
  refine ⟨?_, by rw [bitsOf_length]; exact hm⟩
  unfold enc8
  rw [hnum, bitsOf_length, show rowLen s / 8 + 1 = s.length by omega, putB_leNat]
def cnt (N : Nat) : Nat → Nat
  | 0 => 0
  | m + 1 => cnt N m + N / 2 ^ m % 2
theorem cnt_le (N m : Nat) : cnt N m ≤ m := by
  induction m with
  | zero => exact Nat.le_refl _
  | succ m ih => rw [cnt]; omega
theorem cnt_bits (N m : Nat) : cnt N m = (bitsOf N m).count true := by
  induction m with
  | zero => rfl
  | succ m ih =>
    rw [cnt, bitsOf, List.count_append, ih]
    congr 1
    rcases Nat.mod_two_eq_zero_or_one (N / 2 ^ m) with h | h <;> simp [h]
theorem places_count (l : List Bool) (k : Nat) : (places l k).length = l.count true := by
  induction l generalizing k with
  | nil => rfl
  | cons b r ih =>
    cases b <;> simp [places, ih]
theorem low_replicate (n : Nat) : low (List.replicate n false) = 0 := by
  induction n with
  | zero => rfl
  | succ n ih => simp [List.replicate_succ, low, ih]
theorem low_append (a b : List Bool) : low (a ++ b) = low a + 2 ^ a.length * low b := by
  induction a with
  | nil => simp [low]
  | cons x a ih =>
    simp only [List.cons_append, low, ih, List.length_cons, Nat.pow_succ, Nat.mul_add]
    rw [Nat.mul_comm (2 ^ a.length) 2, Nat.mul_assoc]
    omega
theorem cnt_num (xs : List Bool) : cnt (num xs) (8 * (xs.length / 8 + 1)) = (places xs 0).length + 1 := by
  have e : bitsOf (num xs) (8 * (xs.length / 8 + 1)) = xs ++ true :: List.replicate (8 * (xs.length / 8 + 1) - xs.length - 1) false := by
    apply low_inj
    · simp [bitsOf_length]; omega
    · rw [low_bitsOf, low_append, low, low_replicate, Nat.mod_eq_of_lt]
      · unfold num; simp
      · exact Nat.lt_of_lt_of_le (num_lt xs) (Nat.pow_le_pow_right (by decide) (by omega))
  rw [cnt_bits, e, List.count_append, places_count]
  simp [List.count_replicate]
theorem cnt_step (xs : List Bool) (j k : Nat) (hk : k < 8) (hj : j < (enc8 xs).length) : cnt (num xs) (8 * j + k + 1) = cnt (num xs) (8 * j + k) + ((enc8 xs)[j].toNat / 2 ^ k) % 2 := by
  rw [cnt, ← leNat_enc8, bit_of, show (8 * j + k) / 8 = j by omega, show (8 * j + k) % 8 = k by omega, List.getD_eq_getElem?_getD, List.getElem?_eq_getElem hj]
  rfl
/-- a row of so many, with those places set -/
def marks (ps : List Int) (n : Nat) : List Bool := (List.range n).map fun (i : Nat) => decide ((i : Int) ∈ ps)
theorem marks_length (ps : List Int) (n : Nat) : (marks ps n).length = n := by simp [marks]
theorem marks_nil (n : Nat) : marks [] n = List.replicate n false := by
  apply List.ext_getElem <;> simp [marks]
theorem marks_set (ps : List Int) (n : Nat) (p : Int) (h0 : 0 ≤ p) (h1 : p < n) : (marks ps n).set p.toNat true = marks (ps ++ [p]) n := by
  apply List.ext_getElem
  · simp [marks]
  · intro i h2 h3
    have hi : i < n := by simpa [marks_length] using h3
    rw [List.getElem_set]
    simp only [marks, List.getElem_map, List.getElem_range, List.mem_append, List.mem_singleton]
    by_cases h : p.toNat = i
    · have : (i : Int) = p := by omega
      simp [h, this]
    · have : ¬ (i : Int) = p := by omega
      simp [h, this]
theorem mem_places (l : List Bool) : ∀ (k : Nat) (q : Int), q ∈ places l k ↔ ∃ j, q = ((k + j : Nat) : Int) ∧ l[j]? = some true := by
  induction l with
  | nil => intro k q; simp [places]
  | cons b r ih =>
    intro k q
    simp only [places, List.mem_append, ih]
    constructor
    · rintro (h | ⟨j, h1, h2⟩)
      · split at h
        · rename_i hb
          simp at h
          exact ⟨0, by simpa using h, by simp [hb]⟩
        · simp at h
      · exact ⟨j + 1, by rw [h1]; congr 1; omega, by simpa using h2⟩
    · rintro ⟨j, h1, h2⟩
      cases j with
      | zero => left; simp at h2; subst h2; simp; simpa using h1
      | succ j => right; exact ⟨j, by rw [h1]; congr 1; omega, by simpa using h2⟩
theorem marks_places (xs : List Bool) : marks (places xs 0) xs.length = xs := by
  apply List.ext_getElem
  · simp [marks]
  · intro i h1 h2
    have e : (marks (places xs 0) xs.length)[i] = decide ((i : Int) ∈ places xs 0) := by simp [marks]
    rw [e]
    cases hb : xs[i] with
    | true => exact decide_eq_true ((mem_places xs 0 _).2 ⟨i, by simp, by rw [List.getElem?_eq_getElem h2, hb]⟩)
    | false =>
      refine decide_eq_false fun hm => ?_
      obtain ⟨j, h3, h4⟩ := (mem_places xs 0 _).1 hm
      have : j = i := by omega
      subst this
      rw [List.getElem?_eq_getElem h2, hb] at h4
      cases h4
theorem places_pair (l : List Bool) : ∀ k, (places l k).Pairwise (· < ·) := by
  induction l with
  | nil => intro k; exact List.Pairwise.nil
  | cons b r ih =>
    intro k
    simp only [places]
    split
    · refine List.Pairwise.cons (fun q hq => ?_) (ih _)
      obtain ⟨j, h, _⟩ := (mem_places r (k + 1) q).1 hq
      omega
    · exact ih _
def lastI (ps : List Int) (m : Nat) : Int := if m = 0 then -1 else ps.getD (m - 1) 0
theorem places_facts (xs : List Bool) (m : Nat) (h : m < (places xs 0).length) : 0 ≤ (places xs 0)[m] ∧ (places xs 0)[m] < xs.length ∧ lastI (places xs 0) m < (places xs 0)[m] ∧ lastI (places xs 0) (m + 1) = (places xs 0)[m] := by
  obtain ⟨j, h1, h2⟩ := (mem_places xs 0 _).1 (List.getElem_mem h)
  have h3 : j < xs.length := (List.getElem?_eq_some_iff.1 h2).1
  refine ⟨by omega, by omega, ?_, ?_⟩
  · unfold lastI
    split
    · omega
    · rw [List.getD_eq_getElem?_getD, List.getElem?_eq_getElem (by omega)]
      exact List.pairwise_iff_getElem.1 (places_pair xs 0) (m - 1) m (by omega) h (by omega)
  · unfold lastI
    rw [if_neg (by omega), List.getD_eq_getElem?_getD, Nat.add_sub_cancel, List.getElem?_eq_getElem h]
    rfl
theorem turn_set (xs : List Bool) (i : Nat) (h : i < xs.length) (e : enc8 xs = enc8 (xs.set i (!xs[i]))) : False := by
  have h1 := congrArg (fun l : List Bool => l[i]?) (enc8_inj e)
  simp [h] at h1
theorem turn_more (xs : List Bool) (b : Bool) (e : enc8 xs = enc8 (xs ++ [b])) : False := by
  have h1 := congrArg List.length (enc8_inj e)
  simp at h1
theorem turn_take (xs : List Bool) (i : Nat) (h : i < xs.length) (e : enc8 xs = enc8 (xs.take i)) : False := by
  have h1 := congrArg List.length (enc8_inj e)
  rw [List.length_take] at h1
  omega
theorem put_add (M K i : Nat) (hi : i / 8 < K) (hM : M < 2 ^ i) (h : i / 8 < (putB M K).length) :
    (putB M K).set (i / 8) ((putB M K)[i / 8] + UInt8.ofNat (2 ^ (i % 8))) = putB (M + 2 ^ i) K := by
  have h1 := put_set [] M K i hi hM (by simpa using h)
  simp only [List.nil_append, List.length_nil, Nat.zero_add, Nat.one_mul] at h1
  rw [← h1]
  congr 1
  have hget : (putB M K)[i / 8] = UInt8.ofNat (M / 256 ^ (i / 8)) := by
    have h2 := putB_get M K (i / 8) hi
    rw [List.getElem?_eq_getElem h] at h2
    exact Option.some.inj h2
  have hq : M / 256 ^ (i / 8) < 2 ^ (i % 8) := by
    rw [Nat.div_lt_iff_lt_mul (Nat.pow_pos (by decide)), Nat.mul_comm, ← split_pow]; exact hM
  have hm8 : 2 ^ (i % 8) ≤ 128 := Nat.pow_le_pow_right (show 0 < 2 by decide) (show i % 8 ≤ 7 by omega)
  rw [hget]
  apply UInt8.toNat_inj.1
  have e1 : (UInt8.ofNat (M / 256 ^ (i / 8))).toNat = M / 256 ^ (i / 8) := by simp [UInt8.toNat_ofNat']; omega
  have e2 : (UInt8.ofNat (2 ^ (i % 8))).toNat = 2 ^ (i % 8) := by simp only [UInt8.toNat_ofNat']; omega
  rw [UInt8.toNat_or, UInt8.toNat_add, e1, e2, or_pow _ _ hq, Nat.mod_eq_of_lt (by omega)]
theorem putB_grow (M i : Nat) (hM : M < 2 ^ i) (h8 : i % 8 = 0) : putB M ((i + 7) / 8) ++ [0] = putB M (i / 8 + 1) := by
  have e : (i + 7) / 8 = i / 8 := by omega
  have hp : 2 ^ i = 256 ^ (i / 8) := by rw [split_pow, h8, Nat.pow_zero, Nat.mul_one]
  have h0 : M / 256 ^ (i / 8) = 0 := Nat.div_eq_of_lt (by rw [← hp]; exact hM)
  have h1 : putB M (i / 8 + 1) = putB M (i / 8) ++ [UInt8.ofNat (M / 256 ^ (i / 8))] := rfl
  rw [h1, e, h0]
  rfl
theorem bitsOf_get (N n j : Nat) (h : j < (bitsOf N n).length) : (bitsOf N n)[j] = decide (N / 2 ^ j % 2 = 1) := by
  induction n with
  | zero => simp [bitsOf] at h
  | succ n ih =>
    simp only [bitsOf]
    rcases Nat.lt_or_ge j n with h1 | h1
    · rw [List.getElem_append_left (by rw [bitsOf_length]; exact h1)]
      exact ih _
    · have : j = n := by rw [bitsOf_length] at h; omega
      subst this
      rw [List.getElem_append_right (by rw [bitsOf_length]; exact Nat.le_refl _)]
      simp [bitsOf_length]
theorem rowLen_spec {s : List UInt8} (hs : s ≠ []) (hc : (s.getD (s.length - 1) 0).toNat ≠ 0) : 2 ^ rowLen s ≤ leNat s ∧ leNat s < 2 ^ (rowLen s + 1) := by
  have hlen8 : len8 (s.getD (s.length - 1) 0).toNat = Nat.log2 (s.getD (s.length - 1) 0).toNat + 1 := by unfold len8; rw [if_neg hc]
  have hr : rowLen s = 8 * (s.length - 1) + Nat.log2 (s.getD (s.length - 1) 0).toNat := by
    have : rowLen s = 8 * (s.length - 1) + (len8 (s.getD (s.length - 1) 0).toNat - 1) := rfl
    omega
  have hlast := leNat_last s hs
  constructor
  · have h1 := Nat.log2_self_le hc
    rw [← hlast] at h1 hr
    rw [hr, Nat.pow_add, ← pow256, Nat.mul_comm]
    exact (Nat.le_div_iff_mul_le (Nat.pow_pos (by decide))).1 h1
  · have h1 : (s.getD (s.length - 1) 0).toNat < 2 ^ (Nat.log2 (s.getD (s.length - 1) 0).toNat + 1) := (Nat.log2_lt hc).1 (Nat.lt_succ_self _)
    rw [← hlast] at h1 hr
    rw [hr, Nat.add_assoc, Nat.pow_add, ← pow256, Nat.mul_comm]
    exact (Nat.div_lt_iff_lt_mul (Nat.pow_pos (by decide))).1 h1
theorem top_down (N j : Nat) (h : N < 2 ^ (j + 1)) (hb : decide (N / 2 ^ j % 2 = 1) = false) : N < 2 ^ j := by
  have h1 : ¬ N / 2 ^ j % 2 = 1 := by simpa using hb
  have h2 : N / 2 ^ j < 2 := by
    rw [Nat.div_lt_iff_lt_mul (Nat.pow_pos (by decide)), Nat.mul_comm, ← Nat.pow_succ]; exact h
  have h3 : N / 2 ^ j = 0 := by
    generalize N / 2 ^ j = q at h1 h2
    omega
  rcases Nat.div_eq_zero_iff.1 h3 with h4 | h4
  · have : 0 < 2 ^ j := Nat.pow_pos (by decide)
    omega
  · exact h4
theorem top_here {s : List UInt8} {j : Nat} (most : Int) (h : leNat s < 2 ^ (j + 1)) (hb : decide (leNat s / 2 ^ j % 2 = 1) = true) (h1 : j + 1 ≤ 8 * s.length) (h2 : 8 * s.length ≤ j + 1 + 7) :
    (getB s most).isSome = decide ((j : Int) ≤ most) ∧ ((j : Int) ≤ most → getD' s most = bitsOf (leNat s) j) := by
  have hb' : leNat s / 2 ^ j % 2 = 1 := by simpa using hb
  have hlo : 2 ^ j ≤ leNat s := by
    rcases Nat.lt_or_ge (leNat s) (2 ^ j) with h3 | h3
    · rw [Nat.div_eq_of_lt h3] at hb'; cases hb'
    · exact h3
  have hs : s ≠ [] := fun h0 => by subst h0; simp at h1
  have hc : (s.getD (s.length - 1) 0).toNat ≠ 0 := fun h0 => by
    rw [← leNat_last s hs] at h0
    have hle : 256 ^ (s.length - 1) ≤ 2 ^ j := by
      rw [pow256]; exact Nat.pow_le_pow_right (by decide) (by omega)
    have hpos : 0 < 256 ^ (s.length - 1) := Nat.pow_pos (by decide)
    rcases Nat.div_eq_zero_iff.1 h0 with h4 | h4 <;> omega
  obtain ⟨h3, h4⟩ := rowLen_spec hs hc
  have e : rowLen s = j := by
    rcases Nat.lt_trichotomy (rowLen s) j with h5 | h5 | h5
    · have := Nat.pow_le_pow_right (show 0 < 2 by decide) (show rowLen s + 1 ≤ j by omega)
      omega
    · exact h5
    · have := Nat.pow_le_pow_right (show 0 < 2 by decide) (show j + 1 ≤ rowLen s by omega)
      omega
  by_cases hm : (j : Int) ≤ most
  · have h6 := getB_some hs hc (most := most) (by omega)
    refine ⟨by rw [h6]; simp [hm], fun _ => ?_⟩
    unfold getD'
    rw [h6, e]
    rfl
  · have h6 : getB s most = none := getB_none (.inr (.inr (by omega)))
    exact ⟨by rw [h6]; simp [hm], fun h => absurd h hm⟩
theorem top_none {s : List UInt8} {j : Nat} (most : Int) (h : leNat s < 2 ^ j) (h1 : j = 0 ∨ j + 8 ≤ 8 * s.length) (h2 : 8 * s.length ≤ j + 8) : getB s most = none := by
  by_cases hs : s = []
  · exact getB_none (.inl hs)
  · refine getB_none (.inr (.inl ?_))
    rw [← leNat_last s hs]
    have hl : s.length ≠ 0 := fun h0 => hs (List.eq_nil_of_length_eq_zero h0)
    have hj : j = 8 * (s.length - 1) := by omega
    rw [hj, ← pow256] at h
    exact Nat.div_eq_of_lt h
theorem bitsOf_take (N : Nat) : ∀ (n j : Nat), j ≤ n → (bitsOf N n).take j = bitsOf N j
  | 0, j, h => by obtain rfl : j = 0 := by omega
                  rfl
  | n + 1, j, h => by
    rcases Nat.lt_or_ge j (n + 1) with h1 | h1
    · rw [bitsOf, List.take_append_of_le_length (by rw [bitsOf_length]; omega), bitsOf_take N n j (by omega)]
    · obtain rfl : j = n + 1 := by omega
      rw [List.take_of_length_le (by rw [bitsOf_length]; omega)]
theorem getD'_le (s : List UInt8) (most : Int) : (getD' s most).length ≤ 8 * s.length := by
  unfold getD'
  by_cases h : s = [] ∨ (s.getD (s.length - 1) 0).toNat = 0 ∨ most < rowLen s
  · rw [getB_none h]; exact Nat.zero_le _
  · have h1 : s ≠ [] := fun h0 => h (.inl h0)
    have h2 : (s.getD (s.length - 1) 0).toNat ≠ 0 := fun h0 => h (.inr (.inl h0))
    have h3 := rowLen_eq s h1 h2
    rw [getB_some h1 h2 (Int.not_lt.1 fun h0 => h (.inr (.inr h0)))]
    show (bitsOf _ _).length ≤ _
    rw [bitsOf_length]
    omega
theorem getD'_none (s : List UInt8) (most : Int) (h : (getB s most).isSome = false) : getD' s most = [] := by
  unfold getD'
  cases hg : getB s most with
  | none => rfl
  | some r => rw [hg] at h; cases h
theorem places_append (a b : List Bool) (k : Nat) : places (a ++ b) k = places a k ++ places b (k + a.length) := by
  induction a generalizing k with
  | nil => simp [places]
  | cons x a ih =>
    simp only [List.cons_append, places, ih, List.length_cons, List.append_assoc]
    congr 3
    omega
theorem places_at (xs : List Bool) (i : Nat) (h : i < xs.length) (hx : xs[i] = true) : ∃ h2 : (places (xs.take i) 0).length < (places xs 0).length, (places xs 0)[(places (xs.take i) 0).length] = (i : Int) := by
  have e : places xs 0 = places (xs.take i) 0 ++ ((i : Int) :: places (xs.drop (i + 1)) (i + 1)) := by
    have h1 : xs = xs.take i ++ (xs[i] :: xs.drop (i + 1)) := by rw [List.getElem_cons_drop, List.take_append_drop]
    have h3 : places xs 0 = places (xs.take i ++ (xs[i] :: xs.drop (i + 1))) 0 := congrArg (fun l => places l 0) h1
    rw [h3, places_append, hx]
    simp only [places, List.length_take, Nat.min_eq_left (Nat.le_of_lt h), Nat.zero_add, if_true]
    rfl
  have h2 : (places (xs.take i) 0).length < (places xs 0).length := by
    have := congrArg List.length e
    rw [List.length_append, List.length_cons] at this
    omega
  refine ⟨h2, ?_⟩
  have h4 : (places xs 0)[(places (xs.take i) 0).length]? = some (i : Int) := by
    rw [e, List.getElem?_append_right (Nat.le_refl _)]
    simp
  rw [List.getElem?_eq_getElem h2] at h4
  exact Option.some.inj h4
end Go.SL
