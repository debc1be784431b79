import Derived.Test.YtdeemlgkckpedaaEnl
set_option linter.unusedVariables false
set_option linter.unusedSimpArgs false
namespace Go.SL
/-! ### SHA-256, in plain Lean -/
def H0 : List UInt32 := [0x6a09e667, 0xbb67ae85, 0x3c6ef372, 0xa54ff53a, 0x510e527f, 0x9b05688c, 0x1f83d9ab, 0x5be0cd19]
def K64 : List UInt32 := [0x428a2f98, 0x71374491, 0xb5c0fbcf, 0xe9b5dba5, 0x3956c25b, 0x59f111f1, 0x923f82a4, 0xab1c5ed5, 0xd807aa98, 0x12835b01, 0x243185be, 0x550c7dc3, 0x72be5d74, 0x80deb1fe, 0x9bdc06a7, 0xc19bf174, 0xe49b69c1, 0xefbe4786, 0x0fc19dc6, 0x240ca1cc, 0x2de92c6f, 0x4a7484aa, 0x5cb0a9dc, 0x76f988da, 0x983e5152, 0xa831c66d, 0xb00327c8, 0xbf597fc7, 0xc6e00bf3, 0xd5a79147, 0x06ca6351, 0x14292967, 0x27b70a85, 0x2e1b2138, 0x4d2c6dfc, 0x53380d13, 0x650a7354, 0x766a0abb, 0x81c2c92e, 0x92722c85, 0xa2bfe8a1, 0xa81a664b, 0xc24b8b70, 0xc76c51a3, 0xd192e819, 0xd6990624, 0xf40e3585, 0x106aa070, 0x19a4c116, 0x1e376c08, 0x2748774c, 0x34b0bcb5, 0x391c0cb3, 0x4ed8aa4a, 0x5b9cca4f, 0x682e6ff3, 0x748f82ee, 0x78a5636f, 0x84c87814, 0x8cc70208, 0x90befffa, 0xa4506ceb, 0xbef9a3f7, 0xc67178f2]
theorem K64_len : K64.length = 64 := rfl
def byteW (bs : List UInt8) (i : Nat) : UInt32 := UInt32.ofNat (bs.getD i 0).toNat
def word (bs : List UInt8) (i : Nat) : UInt32 := shl32 (byteW bs (4 * i)) 24 ||| shl32 (byteW bs (4 * i + 1)) 16 ||| shl32 (byteW bs (4 * i + 2)) 8 ||| byteW bs (4 * i + 3)
def w16 (bs : List UInt8) (i : Nat) : List UInt32 := (List.range i).map (word bs)
theorem w16_len (bs : List UInt8) (i : Nat) : (w16 bs i).length = i := by simp [w16]
theorem w16_succ (bs : List UInt8) (i : Nat) : w16 bs (i + 1) = w16 bs i ++ [word bs i] := by simp [w16, List.range_succ]
/-- what is laid so far, and noughts -/
def fillA (m : List UInt32) : List UInt32 := m ++ List.replicate (64 - m.length) 0
theorem fillA_len {m : List UInt32} (h : m.length ≤ 64) : (fillA m).length = 64 := by simp [fillA]; omega
theorem fillA_set {m : List UInt32} (h : m.length < 64) (u : UInt32) : (fillA m).set m.length u = fillA (m ++ [u]) := by
  unfold fillA
  rw [List.set_append_right _ _ (Nat.le_refl _), Nat.sub_self, show 64 - m.length = (64 - (m ++ [u]).length) + 1 by simp; omega, List.replicate_succ, List.set_cons_zero, List.append_assoc]
  rfl
theorem fillA_at {m : List UInt32} {j : Nat} (h : j < m.length) : (wC (fillA m)).toArray[j]? = some (.int .u32 ((m.getD j 0).toNat : Int)) := by
  have h2 : j < (fillA m).length := by unfold fillA; rw [List.length_append]; omega
  have e : (fillA m)[j] = m.getD j 0 := by
    rw [show (fillA m)[j] = m[j] from List.getElem_append_left h]
    simp [List.getD_eq_getElem?_getD, h]
  rw [wC_at0 h2, e]
theorem fillA_st {m : List UInt32} {j : Nat} (hj : j = m.length) (h : m.length < 64) (u : UInt32) : (wC (fillA m)).toArray.setIfInBounds j (.int .u32 (u.toNat : Int)) = (wC (fillA (m ++ [u]))).toArray := by
  subst hj
  rw [wC_set0, fillA_set h]
theorem wC_gd {ws : List UInt32} {j : Nat} (h : j < ws.length) : (wC ws).toArray[j]? = some (.int .u32 ((ws.getD j 0).toNat : Int)) := by
  rw [wC_at0 h]
  congr 3
  simp [List.getD_eq_getElem?_getD, h]
def next16 (m : List UInt32) : UInt32 :=
  m.getD (m.length - 16) 0 + (rotr (m.getD (m.length - 15) 0) 7 ^^^ rotr (m.getD (m.length - 15) 0) 18 ^^^ shr32 (m.getD (m.length - 15) 0) 3) + m.getD (m.length - 7) 0 + (rotr (m.getD (m.length - 2) 0) 17 ^^^ rotr (m.getD (m.length - 2) 0) 19 ^^^ shr32 (m.getD (m.length - 2) 0) 10)
def sch : Nat → List UInt32 → List UInt32
  | 0, l => l
  | k + 1, l => sch k l ++ [next16 (sch k l)]
theorem sch_len (k : Nat) (l : List UInt32) : (sch k l).length = k + l.length := by
  induction k with
  | zero => simp [sch]
  | succ k ih => rw [sch, List.length_append, ih]; simp; omega
def layM (bs : List UInt8) : List UInt32 := sch 48 (w16 bs 16)
theorem layM_len (bs : List UInt8) : (layM bs).length = 64 := by unfold layM; rw [sch_len, w16_len]
theorem fillA_64 {m : List UInt32} (h : m.length = 64) : fillA m = m := by unfold fillA; rw [h]; simp
def rnd (k w : UInt32) : List UInt32 → List UInt32
  | [a, b, c, d, e, f, g, h] =>
    [h + (rotr e 6 ^^^ rotr e 11 ^^^ rotr e 25) + (e &&& f ^^^ ~~~e &&& g) + k + w + ((rotr a 2 ^^^ rotr a 13 ^^^ rotr a 22) + (a &&& b ^^^ a &&& c ^^^ b &&& c)), a, b, c, d + (h + (rotr e 6 ^^^ rotr e 11 ^^^ rotr e 25) + (e &&& f ^^^ ~~~e &&& g) + k + w), e, f, g]
  | l => l
theorem list_len8 {l : List UInt32} (h : l.length = 8) : ∃ a b c d e f g k, l = [a, b, c, d, e, f, g, k] := by
  match l, h with
  | [a, b, c, d, e, f, g, k], _ => exact ⟨a, b, c, d, e, f, g, k, rfl⟩
theorem rnd_len {k w : UInt32} {l : List UInt32} (h : l.length = 8) : (rnd k w l).length = 8 := by
  obtain ⟨a, b, c, d, e, f, g, k, rfl⟩ := list_len8 h
  rfl
def rnds (W ws : List UInt32) : Nat → List UInt32
  | 0 => ws
  | i + 1 => rnd (K64.getD i 0) (W.getD i 0) (rnds W ws i)
theorem rnds_len {W ws : List UInt32} (h : ws.length = 8) (i : Nat) : (rnds W ws i).length = 8 := by
  induction i with
  | zero => exact h
  | succ i ih => exact rnd_len ih
def W8.add (w : W8) (v : List UInt32) (i : Nat) : W8 := ⟨(List.range 8).map fun j => if j < i then w.1.getD j 0 + v.getD j 0 else w.1.getD j 0, by simp⟩
theorem W8.add_zero (w : W8) (v : List UInt32) : w.add v 0 = w := by
  apply Subtype.ext
  refine List.ext_getElem (by rw [w.2]; simp [W8.add]) fun j h1 h2 => ?_
  simp [W8.add, List.getD_eq_getElem?_getD, h2]
theorem W8.add_get (w : W8) (v : List UInt32) {i : Nat} (h : i < 8) : (w.add v i).1.getD i 0 = w.1.getD i 0 := by
  simp [W8.add, List.getD_eq_getElem?_getD, h]
theorem stC_wld (w : W8) (v : List UInt32) (r : SlV) (n : Nat) {i : Nat} (h : i < 8) : (stC ⟨w.add v i, r, n⟩).toArray[i]? = some (.int .u32 ((w.1.getD i 0).toNat : Int)) := by
  have h8 : i < (w.add v i).1.length := by rw [(w.add v i).2]; exact h
  have := wC_at (X := [SlV.v r] ++ [.int .u64 (n : Int)]) h8
  rw [← w.add_get v h]
  rw [show (w.add v i).1.getD i 0 = (w.add v i).1[i] by simp [List.getD_eq_getElem?_getD, h8]]
  exact this
theorem stC_wst (w : W8) (v : List UInt32) (r : SlV) (n : Nat) {i : Nat} (h : i < 8) {u : UInt32} (hu : u = w.1.getD i 0 + v.getD i 0) : (stC ⟨w.add v i, r, n⟩).toArray.setIfInBounds i (.int .u32 (u.toNat : Int)) = (stC ⟨w.add v (i + 1), r, n⟩).toArray := by
  subst hu
  have h8 : i < (w.add v i).1.length := by rw [(w.add v i).2]; exact h
  have := wC_set (X := [SlV.v r] ++ [.int .u64 (n : Int)]) h8 (w.1.getD i 0 + v.getD i 0)
  refine this.trans ?_
  show (wC _ ++ _).toArray = (wC _ ++ _).toArray
  congr 2
  congr 1
  refine List.ext_getElem (by simp [W8.add]) fun j h1 h2 => ?_
  rw [List.getElem_set]
  by_cases e : i = j
  · subst e; simp [W8.add]
  · rw [if_neg e]
    simp only [W8.add, List.getElem_map, List.getElem_range]
    by_cases h3 : j < i
    · rw [if_pos h3, if_pos (by omega)]
    · rw [if_neg h3, if_neg (by omega)]
/-- a block more -/
def blk8 (w : W8) (bs : List UInt8) : W8 := w.add (rnds (layM bs) w.1 64) 8
def run8 : Nat → W8 → List UInt8 → W8
  | 0, w, _ => w
  | k + 1, w, bs => run8 k (blk8 w (bs.take 64)) (bs.drop 64)
def runs (w : W8) (bs : List UInt8) : W8 := run8 (bs.length / 64) w bs
def left (bs : List UInt8) : List UInt8 := bs.drop (64 * (bs.length / 64))
theorem runs_lt {w : W8} {bs : List UInt8} (h : bs.length < 64) : runs w bs = w := by
  unfold runs
  rw [Nat.div_eq_of_lt h]
  rfl
theorem left_lt {bs : List UInt8} (h : bs.length < 64) : left bs = bs := by
  unfold left
  rw [Nat.div_eq_of_lt h]
  rfl
theorem left_length (bs : List UInt8) : (left bs).length = bs.length % 64 := by
  unfold left
  rw [List.length_drop]
  omega
theorem runs_ge {w : W8} {bs : List UInt8} (h : 64 ≤ bs.length) : runs w bs = runs (blk8 w (bs.take 64)) (bs.drop 64) := by
  unfold runs
  rw [List.length_drop, show bs.length / 64 = (bs.length - 64) / 64 + 1 by omega]
  rfl
theorem left_ge {bs : List UInt8} (h : 64 ≤ bs.length) : left bs = left (bs.drop 64) := by
  unfold left
  rw [List.length_drop, List.drop_drop]
  congr 1
  omega
theorem runs_append (y : List UInt8) : ∀ (k : Nat) (x : List UInt8) (w : W8), x.length / 64 = k → runs w (x ++ y) = runs (runs w x) (left x ++ y) ∧ left (x ++ y) = left (left x ++ y)
  | 0, x, w, h => by
    have hx : x.length < 64 := by omega
    rw [runs_lt (w := w) hx, left_lt hx]
    exact ⟨rfl, rfl⟩
  | k + 1, x, w, h => by
    have hx : 64 ≤ x.length := by omega
    have ih := runs_append y k (x.drop 64) (blk8 w (x.take 64)) (by rw [List.length_drop]; omega)
    have e1 : (x ++ y).take 64 = x.take 64 := by rw [List.take_append_of_le_length hx]
    have e2 : (x ++ y).drop 64 = x.drop 64 ++ y := by rw [List.drop_append_of_le_length hx]
    have hl : 64 ≤ (x ++ y).length := by rw [List.length_append]; omega
    rw [runs_ge hl, e1, e2, left_ge hl, e2, runs_ge (w := w) hx, left_ge hx]
    exact ih
def zpad (n : Nat) : Nat := (119 - n) % 64
def be64 (m i : Nat) : List UInt8 := (List.range i).map fun j => UInt8.ofNat (m / 2 ^ (56 - 8 * j))
theorem be64_succ (m i : Nat) : be64 m (i + 1) = be64 m i ++ [UInt8.ofNat (m / 2 ^ (56 - 8 * i))] := by simp [be64, List.range_succ]
theorem be64_len (m i : Nat) : (be64 m i).length = i := by simp [be64]
def padM (r : List UInt8) (n : Nat) : List UInt8 := r ++ [128] ++ List.replicate (zpad r.length) 0 ++ be64 (n * 8) 8
def byteOf (w : W8) (j : Nat) : UInt8 := UInt8.ofNat (shr32 (w.1.getD (j / 4) 0) (24 - 8 * (j % 4))).toNat
def outN (w : W8) (i : Nat) : Root := ⟨(List.range 32).map fun j => if j < 4 * i then byteOf w j else 0, by simp⟩
theorem outN_zero (w : W8) : outN w 0 = Root.zero := by
  apply Subtype.ext
  refine List.ext_getElem (by simp [outN, Root.zero]) fun j h1 h2 => ?_
  have hj : j < 32 := by simpa [Root.zero] using h2
  simp only [outN, Root.zero, List.getElem_map, List.getElem_range, List.getElem_replicate]
  rw [if_neg (by omega)]
theorem shr32_zero (x : UInt32) : shr32 x 0 = x := by unfold shr32; simp
theorem outN_succ (w : W8) {i : Nat} (h : i < 8) : outN w (i + 1) = ((((outN w i).set (4 * i) (UInt8.ofNat (shr32 (w.1.getD i 0) 24).toNat)).set (4 * i + 1) (UInt8.ofNat (shr32 (w.1.getD i 0) 16).toNat)).set (4 * i + 2) (UInt8.ofNat (shr32 (w.1.getD i 0) 8).toNat)).set (4 * i + 3) (UInt8.ofNat (w.1.getD i 0).toNat) := by
  apply Subtype.ext
  refine List.ext_getElem (by simp [outN, Root.set]) fun j h1 h2 => ?_
  simp only [outN, Root.set, List.getElem_set, List.getElem_map, List.getElem_range]
  have d : ∀ q, q < 4 → (4 * i + q) / 4 = i ∧ (4 * i + q) % 4 = q := fun q hq => ⟨by omega, by omega⟩
  by_cases e3 : 4 * i + 3 = j
  · subst e3; rw [if_pos rfl, if_pos (by omega)]; unfold byteOf; rw [(d 3 (by omega)).1, (d 3 (by omega)).2, shr32_zero]
  · rw [if_neg e3]
    by_cases e2 : 4 * i + 2 = j
    · subst e2; rw [if_pos rfl, if_pos (by omega)]; unfold byteOf; rw [(d 2 (by omega)).1, (d 2 (by omega)).2]
    · rw [if_neg e2]
      by_cases e1 : 4 * i + 1 = j
      · subst e1; rw [if_pos rfl, if_pos (by omega)]; unfold byteOf; rw [(d 1 (by omega)).1, (d 1 (by omega)).2]
      · rw [if_neg e1]
        by_cases e0 : 4 * i = j
        · subst e0; rw [if_pos rfl, if_pos (by omega)]; unfold byteOf; rw [show 4 * i / 4 = i by omega, show 4 * i % 4 = 0 by omega]
        · rw [if_neg e0]
          by_cases h3 : j < 4 * i
          · rw [if_pos h3, if_pos (by omega)]
          · rw [if_neg h3, if_neg (by omega)]
def outR (w : W8) : Root := outN w 8
def H8 : W8 := ⟨H0, rfl⟩
def shaM (m : List UInt8) : Root := outR (runs (runs H8 m) (padM (left m) m.length))
end Go.SL
