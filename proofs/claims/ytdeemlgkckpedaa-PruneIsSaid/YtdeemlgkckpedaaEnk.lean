import Derived.Test.YtdeemlgkckpedaaEnj
import Derived.Lib.AppendStr
set_option linter.unusedVariables false
set_option linter.unusedSimpArgs false
namespace Go.SL
open Go.Lib
/-! ### append: a text's bytes -/
theorem strCells_B (ys : List UInt8) : strCells (B ys) = encU8.flat ys := by
  rw [encU8_flat]
  simp [strCells, B]
theorem run_append_rowS {P : Program} {w0 w : World} {l : List HProp} {v : Value} {xs : List UInt8} {ty t u e : TypeId} {i : TypeInfo} {z : Value} {bytes : Nat} (ht : P.underlying t = some (.slice e)) (hu : P.underlying u = some .string) (hi : P.info? e = some i) (hz : i.zero = some z) (hsize : i.size = 1) (hby : i.bytes = bytes) (hzs : z.cells.size = 1)
    (s : Sat w0 w (Row e encU8 v xs :: l)) (ys : List UInt8) (hb : (xs.length + ys.length) * bytes ≤ 140737488355328) (hml : xs.length + ys.length ≤ maxLen) :
    ∃ v' w', (Builtin.append_ #[t, u] ty #[v, .string (B ys)]).run P w = .ok v' w' ∧ Sat w0 w' (Row e encU8 v' (xs ++ ys) :: l) := by
  have hE : encU8.size = 1 := rfl
  have hlen : (encU8.flat ys).length = ys.length * 1 := encU8.flat_length ys
  have hle : xs.length + ys.length ≤ 9223372036854775807 := by simpa [maxLen] using hml
  have hss : (B ys).size = ys.length := B_size ys
  rcases s.rowOpen with ⟨rfl, rfl, s'⟩ | ⟨g, off, cap, cur, fr, rfl, h2, h3, h4, h5, hf0, s'⟩
  · by_cases hm : ys.length = 0
    · have hy : ys = [] := List.eq_nil_of_length_eq_zero hm
      subst hy
      have hf := run_firstCells_string (P := P) w 1 (B [])
      rw [hss] at hf
      refine ⟨.slice none 0 0, w, ?_, s⟩
      simp [Builtin.append_, run_underlying ht, run_underlying hu, sizeOf, typeInfo, hi, hsize, Builtin.lenOf, hss]
      simp at hf
      rw [hf]
      rfl
    · have hr := run_append_nil_string (P := P) w t u ty e i z ht hu hi hz (B ys) (by omega) (by omega) (by rw [hby, hss]; simp at hb; omega)
      have e1 : ((B ys).data.map fun b => Value.int .u8 b.toNat) = (encU8.flat ys).toArray := by
        rw [← strCells_B]
        apply Array.ext'
        simp [strCells]
      rw [e1, hss] at hr
      refine ⟨_, _, hr, ?_⟩
      have hge := grownCap_ge w ys.length 0 e
      have hcm := grownCap_le_maxLen w ys.length 0 e (by simpa using hml)
      have := (s'.drew.alloc (.cells ((encU8.flat ys).toArray ++ Builtin.zeroCells z.cells (grownCap w ys.length 0 e - ys.length)) e)).rowMk (E := encU8) (xs := ys) (off := 0) (cap := grownCap w ys.length 0 e) (Free.zero _) hge hcm
        (by simp only [Array.size_append, List.size_toArray, size_zeroCells, hzs, hlen, hE]; omega)
        (by simp only [Array.toList_append, List.drop_zero]; rw [← encU8.flat_length]; exact List.take_left)
      simpa using this
  · by_cases hroom : xs.length + ys.length ≤ cap
    · have hf := run_firstCells_string (P := P) w 1 (B ys)
      rw [hss, strCells_B] at hf
      have hfit : off + xs.length * encU8.size + (encU8.flat ys).length ≤ cur.size := by
        rw [hlen, hE]
        rw [hE] at h4
        omega
      have hst := run_storeCells_row P g (off + xs.length * encU8.size) e fr (encU8.flat ys) 0 cur w s'.blk (by simpa using hfit) (encU8.flat_one ys) hf0
      have hadd : (⟨g, off, none⟩ : Addr).add (xs.length * encU8.size) = ⟨g, off + xs.length * encU8.size, none⟩ := by unfold Addr.add; split <;> simp_all
      refine ⟨.slice (some ⟨g, off, none⟩) (xs ++ ys).length cap, _, ?_, (s'.setRow (cs' := (cur.toList.take (off + xs.length * encU8.size) ++ encU8.flat ys ++ cur.toList.drop (off + xs.length * encU8.size + (encU8.flat ys).length)).toArray)).rowMk ?_ ?_ h3 ?_ ?_⟩
      · simp only [Nat.add_zero] at hst
        rw [hE, Nat.mul_one] at hst hadd
        simp only [List.append_assoc] at hst
        simp [Builtin.append_, run_underlying ht, run_underlying hu, sizeOf, typeInfo, hi, Builtin.lenOf, hss, hroom, hf, hsize, hadd, hst, hE]
      · have hsz : ((cur.toList.take (off + xs.length * encU8.size) ++ encU8.flat ys ++ cur.toList.drop (off + xs.length * encU8.size + (encU8.flat ys).length)).toArray).size = cur.size := by
          simp only [List.size_toArray, List.length_append, List.length_take, List.length_drop, Array.length_toList]
          omega
        rw [hsz]; exact hf0
      · rw [List.length_append]; exact hroom
      · simp only [List.size_toArray, List.length_append, List.length_take, List.length_drop, Array.length_toList]
        omega
      · have hxl : (cur.toList.take (off + xs.length * encU8.size)).drop off = encU8.flat xs := by
          rw [List.drop_take, ← h5]
          congr 1
          omega
        have ht1 : (cur.toList.take (off + xs.length * encU8.size)).length = off + xs.length * encU8.size := by
          have hx := Nat.mul_le_mul_right encU8.size h2
          have hy : cur.toList.length = cur.size := by simp
          rw [List.length_take]; omega
        rw [List.append_assoc, List.drop_append_of_le_length (by rw [ht1]; omega), hxl, ← List.append_assoc, ← encU8.flat_append]
        rw [List.take_append_of_le_length (by rw [encU8.flat_length]; exact Nat.le_refl _), List.take_of_length_le (by rw [encU8.flat_length]; exact Nat.le_refl _)]
    · have holds : ∀ j u, (encU8.flat xs)[j]? = some u → w.cell? ((⟨g, off, none⟩ : Addr).add j) = some u := (s.rowCells _ _ _ rfl).2 _ rfl
      have hr := run_append_grow_string (P := P) w t u ty e i z ht hu hi hz ⟨g, off, none⟩ xs.length cap (encU8.flat xs) (by rw [encU8.flat_length, hsize, hE]) holds (B ys) (by omega) (by rw [hss]; omega) (by rw [hby, hss]; exact growslice_fits (by omega) hb)
      rw [strCells_B, hss] at hr
      refine ⟨_, _, hr, ?_⟩
      have hge := grownCap_ge w (xs.length + ys.length) cap e
      have hcm := grownCap_le_maxLen w (xs.length + ys.length) cap e hml
      have := (s'.drop.drew.alloc (.cells ((encU8.flat xs).toArray ++ (encU8.flat ys).toArray ++ Builtin.zeroCells z.cells (grownCap w (xs.length + ys.length) cap e - (xs.length + ys.length))) e)).rowMk (E := encU8) (xs := xs ++ ys) (off := 0) (cap := grownCap w (xs.length + ys.length) cap e) (Free.zero _) (by rw [List.length_append]; exact hge) hcm
        (by simp only [Array.size_append, List.size_toArray, size_zeroCells, hzs, encU8.flat_length, ← Nat.add_mul, Nat.zero_add]; rw [hE]; omega)
        (by simp only [Array.toList_append, List.drop_zero, List.append_assoc]; rw [← List.append_assoc, ← encU8.flat_append, ← encU8.flat_length]; exact List.take_left)
      simpa using this
section
variable {P : Program} {w0 w : World} {n : Nat} {f : Fr} {l : List HProp} {d : Option Tmp} {ty : TypeId} {pos : String} {aft : Array Edge} {g : Option (Nat × Bool)} {x y : Operand} {T T' : TypeId}
theorem os_appendS {e by_ : Nat} {zv sv : Value} {as : Array TypeId} {xs ys : List UInt8} (has : as = #[T, T']) (hT : sliceB P T = some (e, encU8.size, by_)) (hT' : P.underlying T' = some .string) (hzv : (P.info? e).bind (·.zero) = some zv) (hzs : zv.cells.size = 1) (hx : ev f x = sv) (hy : ev f y = .string (B ys))
    (hb : (xs.length + ys.length) * by_ ≤ 140737488355328) (hml : xs.length + ys.length ≤ maxLen) :
    OS P w0 n ⟨d, .call ⟨.builtin .append, #[x, y], as⟩, ty, pos, aft, g⟩ f (Row e encU8 sv xs :: l) (fun v l' => ∃ ao k, v = .slice ao (xs ++ ys).length k ∧ l' = Row e encU8 v (xs ++ ys) :: l) := fun a w r s => by
  subst has
  obtain ⟨hu, q, hq, hs, hb'⟩ := sliceB_spec hT
  have hzz : q.zero = some zv := by simpa [hq] using hzv
  obtain ⟨v', w', hrun, s'⟩ := run_append_rowS (P := P) (ty := ty) hu hT' hq hzz hs hb' hzs s ys hb hml
  obtain ⟨ao, k, hv, _⟩ := s'.rowSlice
  simp [execOp, resolve, invoke, builtin, r.eval, hx, hy, hrun, gives]
  exact ⟨_, ⟨⟨ao, k, by simpa using hv⟩, rfl⟩, s'⟩
end
end Go.SL
