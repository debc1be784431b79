import Derived.Test.YtdeemlgkckpedaaMSha2
set_option linter.unusedVariables false
set_option linter.unusedSimpArgs false
namespace Go.SL
/-! ### The document's digests: from primes and their roots -/
def M64 : Nat := 18446744073709551616
def mul64 (x y : Nat) : Nat × Nat :=
  ((((x / 2 ^ 32 * (y / 2 ^ 32)) % 18446744073709551616 + ((x / 2 ^ 32 * (y % 4294967296)) % 18446744073709551616 + (x % 4294967296 * (y % 4294967296)) % 18446744073709551616 / 2 ^ 32) % 18446744073709551616 / 2 ^ 32) % 18446744073709551616 +
    (((x / 2 ^ 32 * (y % 4294967296)) % 18446744073709551616 + (x % 4294967296 * (y % 4294967296)) % 18446744073709551616 / 2 ^ 32) % 18446744073709551616 % 4294967296 + (x % 4294967296 * (y / 2 ^ 32)) % 18446744073709551616) % 18446744073709551616 / 2 ^ 32) % 18446744073709551616,
   (x * y) % 18446744073709551616)
theorem mul64_lt (x y : Nat) : (mul64 x y).1 < 18446744073709551616 ∧ (mul64 x y).2 < 18446744073709551616 := ⟨Nat.mod_lt _ (by decide), Nat.mod_lt _ (by decide)⟩
def aboveM (x p : Nat) (power : Int) : Bool :=
  if power = 2 then decide (p < (mul64 x x).1) || (decide ((mul64 x x).1 = p) && decide (0 < (mul64 x x).2))
  else if ((mul64 (mul64 x x).1 x).1 + ((mul64 (mul64 x x).1 x).2 + (mul64 (mul64 x x).2 x).1) / 18446744073709551616) % 18446744073709551616 ≠ p / 2 ^ 32 then
    decide (p / 2 ^ 32 < ((mul64 (mul64 x x).1 x).1 + ((mul64 (mul64 x x).1 x).2 + (mul64 (mul64 x x).2 x).1) / 18446744073709551616) % 18446744073709551616)
  else if ((mul64 (mul64 x x).1 x).2 + (mul64 (mul64 x x).2 x).1) % 18446744073709551616 ≠ p * 2 ^ 32 % 18446744073709551616 then
    decide (p * 2 ^ 32 % 18446744073709551616 < ((mul64 (mul64 x x).1 x).2 + (mul64 (mul64 x x).2 x).1) % 18446744073709551616)
  else decide (0 < (mul64 (mul64 x x).2 x).2)
def rootN (p : Nat) (power : Int) : Nat → Nat
  | 0 => 0
  | i + 1 => if aboveM ((rootN p power i + 1 * 2 ^ (39 - i)) % 18446744073709551616) p power then rootN p power i else (rootN p power i + 1 * 2 ^ (39 - i)) % 18446744073709551616
theorem rootN_lt (p : Nat) (power : Int) : ∀ i, rootN p power i < 18446744073709551616
  | 0 => Nat.zero_lt_succ _
  | i + 1 => by
    rw [rootN]
    split
    · exact rootN_lt p power i
    · exact Nat.mod_lt _ (by decide)
theorem pow39 (i : Nat) : 1 * 2 ^ (39 - i) < 18446744073709551616 := by
  have : 2 ^ (39 - i) ≤ 2 ^ 39 := Nat.pow_le_pow_right (by decide) (by omega)
  omega
theorem all_step {l : List Nat} {j : Nat} (f : Nat → Bool) (h : j < l.length) : (l.take (j + 1)).all f = ((l.take j).all f && f l[j]) := by
  rw [List.take_succ_eq_append_getElem h, List.all_append]
  simp
def rootM (p : Nat) (power : Int) : UInt32 := UInt32.ofNat (rootN p power 40 % 4294967296)
def PLs : Nat → List Nat
  | 0 => []
  | i + 1 => if (PLs i).all (fun p => decide ((i + 2) % p ≠ 0)) then PLs i ++ [i + 2] else PLs i
theorem PLs_step (i : Nat) : PLs (i + 1) = if (PLs i).all (fun p => decide ((i + 2) % p ≠ 0)) then PLs i ++ [i + 2] else PLs i := rfl
theorem PLs_pre (i : Nat) : ∀ d, PLs i <+: PLs (i + d)
  | 0 => List.prefix_refl _
  | d + 1 => by
    refine (PLs_pre i d).trans ?_
    rw [← Nat.add_assoc, PLs_step]
    split
    · exact List.prefix_append _ _
    · exact List.prefix_refl _
theorem PLs_rg (i : Nat) : ∀ p ∈ PLs i, 2 ≤ p ∧ p < i + 2 := by
  induction i with
  | zero => intro p h; cases h
  | succ i ih =>
    intro p h
    rw [PLs_step] at h
    split at h
    · rcases List.mem_append.1 h with h | h
      · have := ih p h; omega
      · have := List.mem_singleton.1 h; omega
    · have := ih p h; omega
set_option maxRecDepth 100000 in
theorem PLs_64 : (PLs 310).length = 64 := by decide +kernel
def prm (n : Nat) : List Nat := (PLs 310).take n
theorem PLs_is {i n : Nat} (hi : i ≤ 310) (h : (PLs i).length = n) : PLs i = prm n := by
  have := List.prefix_iff_eq_take.1 (PLs_pre i (310 - i))
  rw [show i + (310 - i) = 310 by omega, h] at this
  exact this
theorem PLs_len_le {i : Nat} : (PLs (i + 1)).length ≤ (PLs i).length + 1 := by
  rw [PLs_step]
  split <;> simp
set_option maxRecDepth 100000 in
theorem roots8 : (prm 8).map (fun p => rootM p 2) = H0 := by decide +kernel
set_option maxRecDepth 100000 in
theorem roots64 : (prm 64).map (fun p => rootM p 3) = K64 := by decide +kernel
theorem prm_len {n : Nat} (h : n ≤ 64) : (prm n).length = n := by unfold prm; rw [List.length_take, PLs_64]; omega
theorem prm_rg {n p : Nat} (h : p ∈ prm n) : 2 ≤ p ∧ p < 312 := PLs_rg 310 p (List.mem_of_mem_take h)
theorem root8_at {i : Nat} (h : i < (prm 8).length) : rootM (prm 8)[i] 2 = H0.getD i 0 := by
  rw [← roots8]
  simp [List.getD_eq_getElem?_getD, h]
theorem root64_at {i : Nat} (h : i < (prm 64).length) : rootM (prm 64)[i] 3 = K64.getD i 0 := by
  rw [← roots64]
  simp [List.getD_eq_getElem?_getD, h]
/-! what is laid so far, of N places -/
def fillN (N : Nat) (m : List UInt32) : List UInt32 := m ++ List.replicate (N - m.length) 0
theorem fillN_len {N : Nat} {m : List UInt32} (h : m.length ≤ N) : (fillN N m).length = N := by simp [fillN]; omega
theorem fillN_set {N : Nat} {m : List UInt32} (h : m.length < N) (u : UInt32) : (fillN N m).set m.length u = fillN N (m ++ [u]) := by
  unfold fillN
  rw [List.set_append_right _ _ (Nat.le_refl _), Nat.sub_self, show N - m.length = (N - (m ++ [u]).length) + 1 by simp; omega, List.replicate_succ, List.set_cons_zero, List.append_assoc]
  rfl
theorem fillN_full {N : Nat} {m : List UInt32} (h : m.length = N) : fillN N m = m := by unfold fillN; rw [h]; simp
theorem fillN_st {N : Nat} {ws : List UInt32} {i : Nat} {u : UInt32} (hN : ws.length = N) (h : i < N) (hu : u = ws.getD i 0) : (wC (fillN N (ws.take i))).toArray.setIfInBounds i (.int .u32 (u.toNat : Int)) = (wC (fillN N (ws.take (i + 1)))).toArray := by
  have hl : (ws.take i).length = i := by rw [List.length_take]; omega
  have h1 := fillN_set (N := N) (m := ws.take i) (by omega) u
  rw [hl] at h1
  rw [wC_set0, h1]
  have h2 : ws.take (i + 1) = ws.take i ++ [u] := by
    rw [List.take_succ_eq_append_getElem (by omega), hu]
    congr 2
    simp [List.getD_eq_getElem?_getD, show i < ws.length by omega]
  rw [h2]
/-! the words of a block -/
theorem sch_take (l : List UInt32) (j : Nat) : ∀ d, (sch (j + d) l).take (j + l.length) = sch j l
  | 0 => by rw [Nat.add_zero, List.take_of_length_le (by rw [sch_len]; exact Nat.le_refl _)]
  | d + 1 => by
    rw [← Nat.add_assoc, sch, List.take_append_of_le_length (by rw [sch_len]; omega)]
    exact sch_take l j d
theorem lay_lo (bs : List UInt8) {i : Nat} (h : i ≤ 16) : (layM bs).take i = w16 bs i := by
  have h1 := sch_take (w16 bs 16) 0 48
  rw [w16_len] at h1
  have h2 : (layM bs).take 16 = w16 bs 16 := by unfold layM; simpa [sch] using h1
  have h3 : (layM bs).take i = ((layM bs).take 16).take i := by rw [List.take_take, Nat.min_eq_left h]
  rw [h3, h2]
  unfold w16
  rw [← List.map_take, List.take_range, Nat.min_eq_left h]
theorem lay_hi (bs : List UInt8) {k : Nat} (h : k ≤ 48) : (layM bs).take (k + 16) = sch k (w16 bs 16) := by
  have h1 := sch_take (w16 bs 16) k (48 - k)
  rw [w16_len, show k + (48 - k) = 48 by omega] at h1
  exact h1
theorem lay_next (bs : List UInt8) {i : Nat} (h1 : 16 ≤ i) (h2 : i < 64) : (layM bs).take (i + 1) = (layM bs).take i ++ [next16 ((layM bs).take i)] := by
  obtain ⟨k, rfl⟩ : ∃ k, i = k + 16 := ⟨i - 16, by omega⟩
  rw [show k + 16 + 1 = (k + 1) + 16 by omega, lay_hi bs (by omega), lay_hi bs (by omega)]
  rfl
theorem lay_first (bs : List UInt8) {i : Nat} (h : i < 16) : (layM bs).take (i + 1) = (layM bs).take i ++ [word bs i] := by
  rw [lay_lo bs (by omega), lay_lo bs (by omega), w16_succ]
def accW (bs : List UInt8) (i : Nat) : Nat → UInt32
  | 0 => 0
  | k + 1 => accW bs i k * 256 + byteW bs (4 * i + k)
theorem bytes_or (a b c d : Nat) (ha : a < 256) (hb : b < 256) (hc : c < 256) (hd : d < 256) : (a * 2 ^ 24 ||| b * 2 ^ 16 ||| c * 2 ^ 8 ||| d) = ((a * 256 + b) * 256 + c) * 256 + d := by
  have e1 : a * 2 ^ 24 ||| b * 2 ^ 16 = a * 2 ^ 24 + b * 2 ^ 16 := by
    have := Nat.two_pow_add_eq_or_of_lt (i := 24) (b := b * 2 ^ 16) (by omega) a
    rw [Nat.mul_comm (2 ^ 24) a] at this
    exact this.symm
  have e2 : (a * 2 ^ 24 + b * 2 ^ 16) ||| c * 2 ^ 8 = a * 2 ^ 24 + b * 2 ^ 16 + c * 2 ^ 8 := by
    have := Nat.two_pow_add_eq_or_of_lt (i := 16) (b := c * 2 ^ 8) (by omega) (a * 2 ^ 8 + b)
    rw [show 2 ^ 16 * (a * 2 ^ 8 + b) = a * 2 ^ 24 + b * 2 ^ 16 by omega] at this
    exact this.symm
  have e3 : (a * 2 ^ 24 + b * 2 ^ 16 + c * 2 ^ 8) ||| d = a * 2 ^ 24 + b * 2 ^ 16 + c * 2 ^ 8 + d := by
    have := Nat.two_pow_add_eq_or_of_lt (i := 8) (b := d) (by omega) (a * 2 ^ 16 + b * 2 ^ 8 + c)
    rw [show 2 ^ 8 * (a * 2 ^ 16 + b * 2 ^ 8 + c) = a * 2 ^ 24 + b * 2 ^ 16 + c * 2 ^ 8 by omega] at this
    exact this.symm
  rw [e1, e2, e3]
  omega
theorem accW_word (bs : List UInt8) (i : Nat) : accW bs i 4 = word bs i := by
  apply UInt32.toNat_inj.1
  have hb : ∀ j, (byteW bs j).toNat < 256 := fun j => by
    unfold byteW
    have := (bs.getD j 0).toNat_lt
    rw [UInt32.toNat_ofNat']
    omega
  have h0 := hb (4 * i)
  have h1 := hb (4 * i + 1)
  have h2 := hb (4 * i + 2)
  have h3 := hb (4 * i + 3)
  unfold word shl32
  simp only [accW, Nat.add_zero, UInt32.toNat_or, UInt32.toNat_add, UInt32.toNat_mul, UInt32.toNat_ofNat']
  generalize (byteW bs (4 * i)).toNat = a at *
  generalize (byteW bs (4 * i + 1)).toNat = b at *
  generalize (byteW bs (4 * i + 2)).toNat = c at *
  generalize (byteW bs (4 * i + 3)).toNat = d at *
  rw [Nat.mod_eq_of_lt (show a * 2 ^ 24 < 2 ^ 32 by omega), Nat.mod_eq_of_lt (show b * 2 ^ 16 < 2 ^ 32 by omega), Nat.mod_eq_of_lt (show c * 2 ^ 8 < 2 ^ 32 by omega), bytes_or a b c d h0 h1 h2 h3]
  have e0 : (0 : UInt32).toNat = 0 := rfl
  have e256 : (256 : UInt32).toNat = 256 := rfl
  rw [e0, e256]
  omega
theorem fillA_zero {m : List UInt32} (h : m.length < 64) : fillA m = fillA (m ++ [0]) := by
  unfold fillA
  rw [show 64 - m.length = (64 - (m ++ [0]).length) + 1 by simp; omega, List.replicate_succ, List.append_assoc]
  rfl
theorem fillA_last {m : List UInt32} {a : UInt32} {j : Nat} (hj : j = m.length) : (wC (fillA (m ++ [a]))).toArray[j]? = some (.int .u32 (a.toNat : Int)) := by
  subst hj
  rw [fillA_at (by simp)]
  congr 3
  simp [List.getD_eq_getElem?_getD]
theorem fillA_re {m : List UInt32} {a : UInt32} {j : Nat} (hj : j = m.length) (h : m.length < 64) (u : UInt32) : (wC (fillA (m ++ [a]))).toArray.setIfInBounds j (.int .u32 (u.toNat : Int)) = (wC (fillA (m ++ [u]))).toArray := by
  subst hj
  rw [wC_set0]
  congr 2
  unfold fillA
  rw [List.append_assoc, List.set_append_right _ _ (Nat.le_refl _), Nat.sub_self, List.append_assoc]
  simp
/-! the text that is taken in, and its blocks -/
def textM (s : List UInt8) : List UInt8 := s ++ [128] ++ List.replicate (zpad (s.length % 64)) 0 ++ be64 (s.length * 8) 8
theorem textM_len (s : List UInt8) : (textM s).length % 64 = 0 := by
  unfold textM
  simp only [List.length_append, List.length_replicate, be64_len, List.length_singleton]
  unfold zpad
  omega
theorem run8_last (T : List UInt8) : ∀ (i : Nat) (w : W8), run8 (i + 1) w T = blk8 (run8 i w T) ((T.drop (64 * i)).take 64)
  | 0, w => by simp [run8]
  | i + 1, w => by
    generalize hT : T = T'
    subst hT
    show run8 (i + 1) (blk8 w (T.take 64)) (T.drop 64) = _
    have e : ∀ (j : Nat) (U : List UInt8) (u : W8), run8 (j + 1) u U = blk8 (run8 j u U) ((U.drop (64 * j)).take 64) := by
      intro j
      induction j with
      | zero => intro U u; simp [run8]
      | succ j ih =>
        intro U u
        show run8 (j + 1) (blk8 u (U.take 64)) (U.drop 64) = _
        rw [ih, List.drop_drop]
        rw [show 64 + 64 * j = 64 * (j + 1) by omega]
        rfl
    rw [e, List.drop_drop, show 64 + 64 * i = 64 * (i + 1) by omega]
    rfl
theorem shaM_text (s : List UInt8) : shaM s = outR (run8 ((textM s).length / 64) H8 (textM s)) := by
  unfold shaM
  congr 1
  have h1 : textM s = s ++ ([128] ++ List.replicate (zpad (s.length % 64)) 0 ++ be64 (s.length * 8) 8) := by unfold textM; simp only [List.append_assoc]
  have h2 := (runs_append ([128] ++ List.replicate (zpad (s.length % 64)) 0 ++ be64 (s.length * 8) 8) _ s H8 rfl).1
  have h3 : padM (left s) s.length = left s ++ ([128] ++ List.replicate (zpad (s.length % 64)) 0 ++ be64 (s.length * 8) 8) := by unfold padM; rw [left_length]; simp only [List.append_assoc]
  rw [h3, ← h2, ← h1]
  rfl
def outP (w : W8) (i : Nat) : Root := ⟨(List.range 32).map fun j => if j < i then byteOf w j else 0, by simp⟩
theorem outP_zero (w : W8) : outP w 0 = Root.zero := by
  apply Subtype.ext
  refine List.ext_getElem (by simp [outP, Root.zero]) fun j h1 h2 => ?_
  simp only [outP, Root.zero, List.getElem_map, List.getElem_range, List.getElem_replicate]
  rw [if_neg (by omega)]
theorem outP_succ (w : W8) {i : Nat} (h : i < 32) : outP w (i + 1) = (outP w i).set i (byteOf w i) := by
  apply Subtype.ext
  refine List.ext_getElem (by simp [outP, Root.set]) fun j h1 h2 => ?_
  simp only [outP, Root.set, List.getElem_set, List.getElem_map, List.getElem_range]
  by_cases e : i = j
  · subst e; rw [if_pos rfl, if_pos (by omega)]
  · rw [if_neg e]
    by_cases h3 : j < i
    · rw [if_pos h3, if_pos (by omega)]
    · rw [if_neg h3, if_neg (by omega)]
theorem outP_all (w : W8) : outP w 32 = outR w := rfl
/-! the order, by the first byte that isn't the same -/
theorem bl_cons (x : UInt8) (a b : List UInt8) : Op.bytesLess (x :: a) (x :: b) = Op.bytesLess a b := by
  have : ¬ x < x := fun h => by have := lt8.1 h; omega
  simp [Op.bytesLess, this]
theorem bl_at : ∀ {i : Nat} {a b : List UInt8}, i < a.length → i < b.length → (∀ j, j < i → a.getD j 0 = b.getD j 0) → a.getD i 0 ≠ b.getD i 0 → Op.bytesLess a b = decide (a.getD i 0 < b.getD i 0)
  | 0, x :: a, y :: b, _, _, _, h => by
    simp only [List.getD_cons_zero] at h ⊢
    have h2 : ¬ (x = y) := h
    simp [Op.bytesLess, h2]
  | i + 1, x :: a, y :: b, h1, h2, h3, h4 => by
    have e : x = y := by simpa using h3 0 (by omega)
    subst e
    rw [bl_cons]
    simp only [List.getD_cons_succ] at h4 ⊢
    exact bl_at (by simpa using h1) (by simpa using h2) (fun j hj => by simpa using h3 (j + 1) (by omega)) h4
theorem root_ext {a b : Root} (h : ∀ j, j < 32 → a.1.getD j 0 = b.1.getD j 0) : a = b := by
  apply Subtype.ext
  refine List.ext_getElem (by rw [a.2, b.2]) fun j h1 h2 => ?_
  have := h j (by rw [a.2] at h1; exact h1)
  simpa [List.getD_eq_getElem?_getD, h1, h2] using this
theorem dig_at : ∀ i, i < 16 → (DIG.take (i + 1)).drop i = [hexd i] := by decide
theorem fill8 : fillN 8 (H0.take 8) = H0 := rfl
theorem fill64 : fillN 64 (K64.take 64) = K64 := by rw [List.take_of_length_le (by rw [K64_len]; exact Nat.le_refl _), fillN_full K64_len]
theorem blk8_eq (h : W8) (s : List UInt8) {V : List UInt32} (hV : rnds (layM s) h.1 64 = V) : wC [h.1.getD 0 0 + V.getD 0 0, h.1.getD 1 0 + V.getD 1 0, h.1.getD 2 0 + V.getD 2 0, h.1.getD 3 0 + V.getD 3 0, h.1.getD 4 0 + V.getD 4 0, h.1.getD 5 0 + V.getD 5 0, h.1.getD 6 0 + V.getD 6 0, h.1.getD 7 0 + V.getD 7 0] = w8C (blk8 h s) := by
  unfold blk8
  rw [hV]
  rfl
theorem fill8_ok (v0 v1 v2 v3 v4 v5 v6 v7 : Int) : Instr.fill (fun i => some (i * 1, 1)) ([.int .u32 0, .int .u32 0, .int .u32 0, .int .u32 0, .int .u32 0, .int .u32 0, .int .u32 0, .int .u32 0] : List Value).toArray [(0, .int .u32 v0), (1, .int .u32 v1), (2, .int .u32 v2), (3, .int .u32 v3), (4, .int .u32 v4), (5, .int .u32 v5), (6, .int .u32 v6), (7, .int .u32 v7)] = some ([.int .u32 v0, .int .u32 v1, .int .u32 v2, .int .u32 v3, .int .u32 v4, .int .u32 v5, .int .u32 v6, .int .u32 v7] : List Value).toArray := by
  simp [Instr.fill, Value.cells]
end Go.SL
