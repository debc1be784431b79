import Derived.Test.YtgdlddjalilmhaaMSha2
set_option linter.unusedVariables false
set_option linter.unusedSimpArgs false
namespace Go.SL
/-! ### Tags -/
def full (k : List UInt8) : List UInt8 := k ++ List.replicate (64 - k.length) 0
theorem full_len {k : List UInt8} (h : k.length ≤ 64) : (full k).length = 64 := by unfold full; simp; omega
def mixK (K : List UInt8) (x : UInt8) (i : Nat) : List UInt8 := (List.range 64).map fun q => if q < i then K.getD q 0 ^^^ x else K.getD q 0
theorem mixK_len (K : List UInt8) (x : UInt8) (i : Nat) : (mixK K x i).length = 64 := by simp [mixK]
theorem mixK_zero {K : List UInt8} (x : UInt8) (h : K.length = 64) : mixK K x 0 = K := by
  refine List.ext_getElem (by rw [mixK_len, h]) fun j h1 h2 => ?_
  simp [mixK, List.getD_eq_getElem?_getD, h2]
theorem mixK_at (K : List UInt8) (x : UInt8) {i : Nat} (h : i < 64) : (bC (mixK K x i)).toArray[i]? = some (.int .u8 ((K.getD i 0).toNat : Int)) := by
  rw [bC_gd (by rw [mixK_len]; exact h)]
  simp [mixK, List.getD_eq_getElem?_getD, h]
theorem mixK_set (K : List UInt8) (x : UInt8) {i : Nat} (h : i < 64) : (bC (mixK K x i)).toArray.setIfInBounds i (.int .u8 ((K.getD i 0 ^^^ x).toNat : Int)) = (bC (mixK K x (i + 1))).toArray := by
  rw [bC_set]
  congr 2
  refine List.ext_getElem (by rw [List.length_set, mixK_len, mixK_len]) fun j h1 h2 => ?_
  rw [List.getElem_set]
  by_cases e : i = j
  · subst e; simp [mixK]
  · rw [if_neg e]
    simp only [mixK, List.getElem_map, List.getElem_range]
    by_cases h3 : j < i
    · rw [if_pos h3, if_pos (by omega)]
    · rw [if_neg h3, if_neg (by omega)]
def padK (k : List UInt8) (x : UInt8) : List UInt8 := mixK (full k) x 64
theorem padK_len (k : List UInt8) (x : UInt8) : (padK k x).length = 64 := mixK_len _ _ _
theorem full_copy {k : List UInt8} (h : k.length ≤ 64) : k.take (min k.length 64) ++ (List.replicate 64 (0 : UInt8)).drop (min k.length 64) = full k := by
  rw [Nat.min_eq_left h, List.take_length, List.drop_replicate]
  rfl
def tagOf (r : Root) : Tag := ⟨r.1.take 16, by rw [List.length_take, r.2]; rfl⟩
theorem tagOf_take (r : Root) : ((rootC r).toArray.toList.drop 0).take 16 = tagC (tagOf r) := by
  simp [rootC, tagC, tagOf, List.map_take]
def keyM (k : List UInt8) : List UInt8 := if 64 < k.length then (shaM k).1 else k
theorem keyM_len (k : List UInt8) : (keyM k).length ≤ 64 := by
  unfold keyM
  split
  · rw [(shaM k).2]; omega
  · omega
def macM (k m : List UInt8) : Tag := tagOf (shaM (padK (keyM k) 92 ++ (shaM (padK (keyM k) 54 ++ m)).1))
theorem macM_zero {k m : List UInt8} {n : Nat} (h : k.length + n ≤ 64) : macM (k ++ List.replicate n 0) m = macM k m := by
  have e1 : keyM k = k := by unfold keyM; rw [if_neg (by omega)]
  have e2 : keyM (k ++ List.replicate n 0) = k ++ List.replicate n 0 := by unfold keyM; rw [if_neg (by simp; omega)]
  have e3 : full (k ++ List.replicate n 0) = full k := by
    unfold full
    rw [List.append_assoc, List.replicate_append_replicate]
    congr 2
    simp; omega
  unfold macM padK
  rw [e1, e2, e3]
/-! ### Joined tags -/
def mixT (a b : Tag) (i : Nat) : List UInt8 := (List.range 16).map fun q => if q < i then a.1.getD q 0 ^^^ b.1.getD q 0 else a.1.getD q 0
theorem mixT_len (a b : Tag) (i : Nat) : (mixT a b i).length = 16 := by simp [mixT]
def xorT (a b : Tag) : Tag := ⟨mixT a b 16, mixT_len a b 16⟩
theorem tag_ext {a b : Tag} (h : ∀ q, q < 16 → a.1.getD q 0 = b.1.getD q 0) : a = b := by
  apply Subtype.ext
  refine List.ext_getElem (by rw [a.2, b.2]) fun j h1 h2 => ?_
  have := h j (by rw [a.2] at h1; exact h1)
  simpa [List.getD_eq_getElem?_getD, h1, h2] using this
theorem xorT_get (a b : Tag) {q : Nat} (h : q < 16) : (xorT a b).1.getD q 0 = a.1.getD q 0 ^^^ b.1.getD q 0 := by
  simp [xorT, mixT, List.getD_eq_getElem?_getD, h]
theorem tagz_get {q : Nat} : Tag.zero.1.getD q 0 = 0 := by
  simp only [Tag.zero, List.getD_eq_getElem?_getD, List.getElem?_replicate]
  split <;> rfl
theorem xorT_comm (a b : Tag) : xorT a b = xorT b a := tag_ext fun q h => by rw [xorT_get _ _ h, xorT_get _ _ h, UInt8.xor_comm]
theorem xorT_assoc (a b c : Tag) : xorT (xorT a b) c = xorT a (xorT b c) := tag_ext fun q h => by rw [xorT_get _ _ h, xorT_get _ _ h, xorT_get _ _ h, xorT_get _ _ h, UInt8.xor_assoc]
theorem xorT_self (a : Tag) : xorT a a = Tag.zero := tag_ext fun q h => by rw [xorT_get _ _ h, UInt8.xor_self, tagz_get]
theorem xorT_zero (a : Tag) : xorT a Tag.zero = a := tag_ext fun q h => by rw [xorT_get _ _ h, tagz_get, UInt8.xor_zero]
theorem zero_xorT (a : Tag) : xorT Tag.zero a = a := by rw [xorT_comm, xorT_zero]
def joinM (l : List Tag) : Tag := l.foldl xorT Tag.zero
theorem foldl_xorT (l : List Tag) (a : Tag) : l.foldl xorT a = xorT a (joinM l) := by
  induction l generalizing a with
  | nil => exact (xorT_zero a).symm
  | cons x r ih => unfold joinM; rw [List.foldl_cons, List.foldl_cons, ih, ih, zero_xorT, xorT_assoc]
theorem joinM_append (x y : List Tag) : joinM (x ++ y) = xorT (joinM x) (joinM y) := by
  unfold joinM
  rw [List.foldl_append]
  exact foldl_xorT y _
theorem joinM_one (x : Tag) : joinM [x] = x := zero_xorT x
theorem joinM_turn (l : List Tag) (k : Nat) : joinM (l.drop k ++ l.take k) = joinM l := by
  rw [joinM_append, xorT_comm, ← joinM_append, List.take_append_drop]
theorem joinM_twice (t : Tag) (l : List Tag) : joinM (([t] ++ l) ++ [t]) = joinM l := by
  rw [joinM_append, joinM_append, joinM_one, xorT_comm t, xorT_assoc, xorT_self, xorT_zero]
theorem joinM_two (x y : Tag) : joinM [x, y] = xorT x y := by
  rw [show [x, y] = [x] ++ [y] from rfl, joinM_append, joinM_one, joinM_one]
theorem joinM_succ (l : List Tag) {i : Nat} (h : i < l.length) : joinM (l.take (i + 1)) = xorT (joinM (l.take i)) l[i] := by
  rw [List.take_succ_eq_append_getElem h, joinM_append, joinM_one]
theorem mixT_zero (a b : Tag) : bC (mixT a b 0) = tagC a := by
  show bC _ = bC a.1
  congr 1
  refine List.ext_getElem (by rw [mixT_len, a.2]) fun j h1 h2 => ?_
  simp [mixT, List.getD_eq_getElem?_getD, h2]
theorem mixT_at (a b : Tag) {i : Nat} (h : i < 16) : (bC (mixT a b i)).toArray[i]? = some (.int .u8 ((a.1.getD i 0).toNat : Int)) := by
  rw [bC_gd (by rw [mixT_len]; exact h)]
  simp [mixT, List.getD_eq_getElem?_getD, h]
theorem mixT_set (a b : Tag) {i : Nat} (h : i < 16) : (bC (mixT a b i)).toArray.setIfInBounds i (.int .u8 ((a.1.getD i 0 ^^^ b.1.getD i 0).toNat : Int)) = (bC (mixT a b (i + 1))).toArray := by
  rw [bC_set]
  congr 2
  refine List.ext_getElem (by rw [List.length_set, mixT_len, mixT_len]) fun j h1 h2 => ?_
  rw [List.getElem_set]
  by_cases e : i = j
  · subst e; simp [mixT]
  · rw [if_neg e]
    simp only [mixT, List.getElem_map, List.getElem_range]
    by_cases h3 : j < i
    · rw [if_pos h3, if_pos (by omega)]
    · rw [if_neg h3, if_neg (by omega)]
/-! byte for byte, as the document does -/
def colT (l : List Tag) (i k : Nat) : List UInt8 := (List.range 16).map fun q => if q < i then (joinM l).1.getD q 0 else if q = i then (joinM (l.take k)).1.getD q 0 else 0
theorem colT_len (l : List Tag) (i k : Nat) : (colT l i k).length = 16 := by simp [colT]
theorem colT_next (l : List Tag) (i : Nat) : colT l i l.length = colT l (i + 1) 0 := by
  unfold colT
  apply List.map_congr_left
  intro q hq
  rw [List.take_length, List.take_zero]
  by_cases h1 : q < i
  · rw [if_pos h1, if_pos (by omega)]
  · rw [if_neg h1]
    by_cases h2 : q = i
    · rw [if_pos h2, if_pos (by omega)]
    · rw [if_neg h2, if_neg (by omega)]
      by_cases h3 : q = i + 1
      · rw [if_pos h3]; exact tagz_get.symm
      · rw [if_neg h3]
theorem colT_zero (l : List Tag) : bC (colT l 0 0) = tagC Tag.zero := by
  show bC _ = bC Tag.zero.1
  congr 1
theorem colT_all (l : List Tag) : bC (colT l 16 0) = tagC (joinM l) := by
  show bC _ = bC (joinM l).1
  congr 1
  refine List.ext_getElem (by rw [colT_len, (joinM l).2]) fun j h1 h2 => ?_
  have hj : j < 16 := by rw [colT_len] at h1; exact h1
  simp only [colT, List.getElem_map, List.getElem_range]
  rw [if_pos hj]
  simp [List.getD_eq_getElem?_getD, h2]
theorem colT_at (l : List Tag) {i : Nat} (k : Nat) (h : i < 16) : (bC (colT l i k)).toArray[i]? = some (.int .u8 (((joinM (l.take k)).1.getD i 0).toNat : Int)) := by
  rw [bC_gd (by rw [colT_len]; exact h)]
  simp [colT, List.getD_eq_getElem?_getD, h]
theorem colT_set (l : List Tag) {i k : Nat} (h : i < 16) (hk : k < l.length) : (bC (colT l i k)).toArray.setIfInBounds i (.int .u8 (((joinM (l.take k)).1.getD i 0 ^^^ l[k].1.getD i 0).toNat : Int)) = (bC (colT l i (k + 1))).toArray := by
  rw [bC_set]
  congr 2
  refine List.ext_getElem (by rw [List.length_set, colT_len, colT_len]) fun j h1 h2 => ?_
  rw [List.getElem_set]
  by_cases e : i = j
  · subst e
    simp only [colT, List.getElem_map, List.getElem_range]
    simp only [if_true, Nat.lt_irrefl, if_false]
    rw [joinM_succ l hk, xorT_get _ _ h]
  · rw [if_neg e]
    simp only [colT, List.getElem_map, List.getElem_range]
    by_cases h3 : j < i
    · rw [if_pos h3, if_pos h3]
    · rw [if_neg h3, if_neg h3, if_neg (Ne.symm e), if_neg (Ne.symm e)]
theorem padK_step (k : List UInt8) (c : UInt8) {i : Nat} (h : i < 64) : (padK k c).take (i + 1) = (padK k c).take i ++ [(full k).getD i 0 ^^^ c] := by
  have hl : i < (padK k c).length := by rw [padK_len]; exact h
  rw [List.take_succ_eq_append_getElem hl]
  congr 2
  simp [padK, mixK, h]
def tagP (r : Root) (i : Nat) : List UInt8 := (List.range 16).map fun q => if q < i then r.1.getD q 0 else 0
theorem tagP_len (r : Root) (i : Nat) : (tagP r i).length = 16 := by simp [tagP]
theorem tagP_zero (r : Root) : bC (tagP r 0) = tagC Tag.zero := by
  show bC _ = bC Tag.zero.1
  congr 1
theorem tagP_set (r : Root) {i : Nat} (h : i < 16) : (bC (tagP r i)).toArray.setIfInBounds i (.int .u8 ((r.1.getD i 0).toNat : Int)) = (bC (tagP r (i + 1))).toArray := by
  rw [bC_set]
  congr 2
  refine List.ext_getElem (by rw [List.length_set, tagP_len, tagP_len]) fun j h1 h2 => ?_
  rw [List.getElem_set]
  by_cases e : i = j
  · subst e; simp [tagP]
  · rw [if_neg e]
    simp only [tagP, List.getElem_map, List.getElem_range]
    by_cases h3 : j < i
    · rw [if_pos h3, if_pos (by omega)]
    · rw [if_neg h3, if_neg (by omega)]
theorem tagP_all (r : Root) : bC (tagP r 16) = tagC (tagOf r) := by
  show bC _ = bC (tagOf r).1
  congr 1
  refine List.ext_getElem (by rw [tagP_len, (tagOf r).2]) fun j h1 h2 => ?_
  have hj : j < 16 := by rw [tagP_len] at h1; exact h1
  have hr : j < r.1.length := by rw [r.2]; omega
  simp only [tagP, tagOf, List.getElem_map, List.getElem_range, List.getElem_take]
  rw [if_pos hj]
  simp [List.getD_eq_getElem?_getD, hr]
end Go.SL
