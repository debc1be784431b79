import Derived.Test.YtdeemlgkckpedaaMWei2
set_option linter.unusedVariables false
set_option linter.unusedSimpArgs false
namespace Go.SL
theorem list_len6 {α : Type} {l : List α} (h : l.length = 6) : ∃ a b c d e f, l = [a, b, c, d, e, f] := by
  match l, h with
  | [a, b, c, d, e, f], _ => exact ⟨a, b, c, d, e, f, rfl⟩
/-! ### WAct -/
structure WAct where
  kind : Int
  root : Int
  parent : Int
  slot : Int
  n : Int
  more : Int
  deriving DecidableEq
def WAct.zero : WAct := ⟨0, 0, 0, 0, 0, 0⟩
def wActC (v : WAct) : List Value := [.int .i64 v.kind] ++ ([.int .i64 v.root] ++ ([.int .i64 v.parent] ++ ([.int .i64 v.slot] ++ ([.int .i64 v.n] ++ ([.int .i64 v.more])))))
theorem wActC_len (v : WAct) : (wActC v).length = 6 := by simp [wActC, rootC_len]
theorem wActC_take' (v : WAct) : (wActC v).take 6 = wActC v := List.take_of_length_le (by rw [wActC_len]; exact Nat.le_refl _)
theorem wActC_ta (v : WAct) : ((wActC v).drop 0).take 6 = wActC v := wActC_take' v
theorem wActC_one (v : WAct) : ∀ u ∈ wActC v, u.oneCell' = true := fun u hu => by
  simp only [wActC, List.mem_append, List.mem_singleton] at hu
  rcases hu with h | h | h | h | h | h
  · subst h; rfl
  · subst h; rfl
  · subst h; rfl
  · subst h; rfl
  · subst h; rfl
  · subst h; rfl
def encWAct : Enc WAct := ⟨wActC, 6, wActC_len, wActC_one, by omega⟩
theorem wActC_d0 (v : WAct) : (wActC v).drop 0 = [.int .i64 v.kind] ++ ([.int .i64 v.root] ++ ([.int .i64 v.parent] ++ ([.int .i64 v.slot] ++ ([.int .i64 v.n] ++ ([.int .i64 v.more]))))) := rfl
theorem wActC_l0 (v : WAct) : (wActC v)[0]? = some (.int .i64 v.kind) := by
  have h := wActC_d0 v
  have h2 : ((wActC v).drop 0)[0]? = some (.int .i64 v.kind) := by rw [h]; rfl
  rwa [List.getElem?_drop] at h2
theorem wActC_a0 (v : WAct) : (wActC v).toArray[0]? = some (.int .i64 v.kind) := by
  rw [List.getElem?_toArray]; exact wActC_l0 v
theorem wActC_s0 (v : WAct) (x : Int) : (wActC v).toArray.setIfInBounds 0 (.int .i64 x) = (wActC { v with kind := x }).toArray := by
  apply Array.toList_inj.1
  rw [Array.toList_setIfInBounds]
  show (wActC v).set 0 _ = wActC _
  unfold wActC
  simp [List.set_append, rootC_len]
theorem wActC_d1 (v : WAct) : (wActC v).drop 1 = [.int .i64 v.root] ++ ([.int .i64 v.parent] ++ ([.int .i64 v.slot] ++ ([.int .i64 v.n] ++ ([.int .i64 v.more])))) := rfl
theorem wActC_l1 (v : WAct) : (wActC v)[1]? = some (.int .i64 v.root) := by
  have h := wActC_d1 v
  have h2 : ((wActC v).drop 1)[0]? = some (.int .i64 v.root) := by rw [h]; rfl
  rwa [List.getElem?_drop] at h2
theorem wActC_a1 (v : WAct) : (wActC v).toArray[1]? = some (.int .i64 v.root) := by
  rw [List.getElem?_toArray]; exact wActC_l1 v
theorem wActC_s1 (v : WAct) (x : Int) : (wActC v).toArray.setIfInBounds 1 (.int .i64 x) = (wActC { v with root := x }).toArray := by
  apply Array.toList_inj.1
  rw [Array.toList_setIfInBounds]
  show (wActC v).set 1 _ = wActC _
  unfold wActC
  simp [List.set_append, rootC_len]
theorem wActC_d2 (v : WAct) : (wActC v).drop 2 = [.int .i64 v.parent] ++ ([.int .i64 v.slot] ++ ([.int .i64 v.n] ++ ([.int .i64 v.more]))) := rfl
theorem wActC_l2 (v : WAct) : (wActC v)[2]? = some (.int .i64 v.parent) := by
  have h := wActC_d2 v
  have h2 : ((wActC v).drop 2)[0]? = some (.int .i64 v.parent) := by rw [h]; rfl
  rwa [List.getElem?_drop] at h2
theorem wActC_a2 (v : WAct) : (wActC v).toArray[2]? = some (.int .i64 v.parent) := by
  rw [List.getElem?_toArray]; exact wActC_l2 v
theorem wActC_s2 (v : WAct) (x : Int) : (wActC v).toArray.setIfInBounds 2 (.int .i64 x) = (wActC { v with parent := x }).toArray := by
  apply Array.toList_inj.1
  rw [Array.toList_setIfInBounds]
  show (wActC v).set 2 _ = wActC _
  unfold wActC
  simp [List.set_append, rootC_len]
theorem wActC_d3 (v : WAct) : (wActC v).drop 3 = [.int .i64 v.slot] ++ ([.int .i64 v.n] ++ ([.int .i64 v.more])) := rfl
theorem wActC_l3 (v : WAct) : (wActC v)[3]? = some (.int .i64 v.slot) := by
  have h := wActC_d3 v
  have h2 : ((wActC v).drop 3)[0]? = some (.int .i64 v.slot) := by rw [h]; rfl
  rwa [List.getElem?_drop] at h2
theorem wActC_a3 (v : WAct) : (wActC v).toArray[3]? = some (.int .i64 v.slot) := by
  rw [List.getElem?_toArray]; exact wActC_l3 v
theorem wActC_s3 (v : WAct) (x : Int) : (wActC v).toArray.setIfInBounds 3 (.int .i64 x) = (wActC { v with slot := x }).toArray := by
  apply Array.toList_inj.1
  rw [Array.toList_setIfInBounds]
  show (wActC v).set 3 _ = wActC _
  unfold wActC
  simp [List.set_append, rootC_len]
theorem wActC_d4 (v : WAct) : (wActC v).drop 4 = [.int .i64 v.n] ++ ([.int .i64 v.more]) := rfl
theorem wActC_l4 (v : WAct) : (wActC v)[4]? = some (.int .i64 v.n) := by
  have h := wActC_d4 v
  have h2 : ((wActC v).drop 4)[0]? = some (.int .i64 v.n) := by rw [h]; rfl
  rwa [List.getElem?_drop] at h2
theorem wActC_a4 (v : WAct) : (wActC v).toArray[4]? = some (.int .i64 v.n) := by
  rw [List.getElem?_toArray]; exact wActC_l4 v
theorem wActC_s4 (v : WAct) (x : Int) : (wActC v).toArray.setIfInBounds 4 (.int .i64 x) = (wActC { v with n := x }).toArray := by
  apply Array.toList_inj.1
  rw [Array.toList_setIfInBounds]
  show (wActC v).set 4 _ = wActC _
  unfold wActC
  simp [List.set_append, rootC_len]
theorem wActC_d5 (v : WAct) : (wActC v).drop 5 = [.int .i64 v.more] := rfl
theorem wActC_l5 (v : WAct) : (wActC v)[5]? = some (.int .i64 v.more) := by
  have h := wActC_d5 v
  have h2 : ((wActC v).drop 5)[0]? = some (.int .i64 v.more) := by rw [h]; rfl
  rwa [List.getElem?_drop] at h2
theorem wActC_a5 (v : WAct) : (wActC v).toArray[5]? = some (.int .i64 v.more) := by
  rw [List.getElem?_toArray]; exact wActC_l5 v
theorem wActC_s5 (v : WAct) (x : Int) : (wActC v).toArray.setIfInBounds 5 (.int .i64 x) = (wActC { v with more := x }).toArray := by
  apply Array.toList_inj.1
  rw [Array.toList_setIfInBounds]
  show (wActC v).set 5 _ = wActC _
  unfold wActC
  simp [List.set_append, rootC_len]
theorem wActC_p0 (v : WAct) (x : Int) : (wActC v).take 0 ++ ([.int .i64 x]) ++ (wActC v).drop 1 = wActC { v with kind := x } := by
  unfold wActC
  simp [List.take_append, List.drop_append, rootC_len, List.take_of_length_le, List.drop_eq_nil_of_le]
theorem wActC_b0 (v : WAct) (x : Int) (r : List (Nat × Value)) : fill2 [(0, 1), (1, 1), (2, 1), (3, 1), (4, 1), (5, 1)] (wActC v) ((0, .int .i64 x) :: r) = fill2 [(0, 1), (1, 1), (2, 1), (3, 1), (4, 1), (5, 1)] (wActC { v with kind := x }) r := congrArg (fun q => fill2 [(0, 1), (1, 1), (2, 1), (3, 1), (4, 1), (5, 1)] q r) (wActC_p0 v x)
theorem wActC_k0 (v : WAct) (x : Int) {r : List (Nat × Value)} (h : FillOk [(0, 1), (1, 1), (2, 1), (3, 1), (4, 1), (5, 1)] (wActC v).length r) : FillOk [(0, 1), (1, 1), (2, 1), (3, 1), (4, 1), (5, 1)] (wActC v).length ((0, .int .i64 x) :: r) := ⟨⟨by simp [Value.cells, ], by rw [wActC_len]; rfl⟩, h⟩
theorem wActC_p1 (v : WAct) (x : Int) : (wActC v).take 1 ++ ([.int .i64 x]) ++ (wActC v).drop 2 = wActC { v with root := x } := by
  unfold wActC
  simp [List.take_append, List.drop_append, rootC_len, List.take_of_length_le, List.drop_eq_nil_of_le]
theorem wActC_b1 (v : WAct) (x : Int) (r : List (Nat × Value)) : fill2 [(0, 1), (1, 1), (2, 1), (3, 1), (4, 1), (5, 1)] (wActC v) ((1, .int .i64 x) :: r) = fill2 [(0, 1), (1, 1), (2, 1), (3, 1), (4, 1), (5, 1)] (wActC { v with root := x }) r := congrArg (fun q => fill2 [(0, 1), (1, 1), (2, 1), (3, 1), (4, 1), (5, 1)] q r) (wActC_p1 v x)
theorem wActC_k1 (v : WAct) (x : Int) {r : List (Nat × Value)} (h : FillOk [(0, 1), (1, 1), (2, 1), (3, 1), (4, 1), (5, 1)] (wActC v).length r) : FillOk [(0, 1), (1, 1), (2, 1), (3, 1), (4, 1), (5, 1)] (wActC v).length ((1, .int .i64 x) :: r) := ⟨⟨by simp [Value.cells, ], by rw [wActC_len]; rfl⟩, h⟩
theorem wActC_p2 (v : WAct) (x : Int) : (wActC v).take 2 ++ ([.int .i64 x]) ++ (wActC v).drop 3 = wActC { v with parent := x } := by
  unfold wActC
  simp [List.take_append, List.drop_append, rootC_len, List.take_of_length_le, List.drop_eq_nil_of_le]
theorem wActC_b2 (v : WAct) (x : Int) (r : List (Nat × Value)) : fill2 [(0, 1), (1, 1), (2, 1), (3, 1), (4, 1), (5, 1)] (wActC v) ((2, .int .i64 x) :: r) = fill2 [(0, 1), (1, 1), (2, 1), (3, 1), (4, 1), (5, 1)] (wActC { v with parent := x }) r := congrArg (fun q => fill2 [(0, 1), (1, 1), (2, 1), (3, 1), (4, 1), (5, 1)] q r) (wActC_p2 v x)
theorem wActC_k2 (v : WAct) (x : Int) {r : List (Nat × Value)} (h : FillOk [(0, 1), (1, 1), (2, 1), (3, 1), (4, 1), (5, 1)] (wActC v).length r) : FillOk [(0, 1), (1, 1), (2, 1), (3, 1), (4, 1), (5, 1)] (wActC v).length ((2, .int .i64 x) :: r) := ⟨⟨by simp [Value.cells, ], by rw [wActC_len]; rfl⟩, h⟩
theorem wActC_p3 (v : WAct) (x : Int) : (wActC v).take 3 ++ ([.int .i64 x]) ++ (wActC v).drop 4 = wActC { v with slot := x } := by
  unfold wActC
  simp [List.take_append, List.drop_append, rootC_len, List.take_of_length_le, List.drop_eq_nil_of_le]
theorem wActC_b3 (v : WAct) (x : Int) (r : List (Nat × Value)) : fill2 [(0, 1), (1, 1), (2, 1), (3, 1), (4, 1), (5, 1)] (wActC v) ((3, .int .i64 x) :: r) = fill2 [(0, 1), (1, 1), (2, 1), (3, 1), (4, 1), (5, 1)] (wActC { v with slot := x }) r := congrArg (fun q => fill2 [(0, 1), (1, 1), (2, 1), (3, 1), (4, 1), (5, 1)] q r) (wActC_p3 v x)
theorem wActC_k3 (v : WAct) (x : Int) {r : List (Nat × Value)} (h : FillOk [(0, 1), (1, 1), (2, 1), (3, 1), (4, 1), (5, 1)] (wActC v).length r) : FillOk [(0, 1), (1, 1), (2, 1), (3, 1), (4, 1), (5, 1)] (wActC v).length ((3, .int .i64 x) :: r) := ⟨⟨by simp [Value.cells, ], by rw [wActC_len]; rfl⟩, h⟩
theorem wActC_p4 (v : WAct) (x : Int) : (wActC v).take 4 ++ ([.int .i64 x]) ++ (wActC v).drop 5 = wActC { v with n := x } := by
  unfold wActC
  simp [List.take_append, List.drop_append, rootC_len, List.take_of_length_le, List.drop_eq_nil_of_le]
theorem wActC_b4 (v : WAct) (x : Int) (r : List (Nat × Value)) : fill2 [(0, 1), (1, 1), (2, 1), (3, 1), (4, 1), (5, 1)] (wActC v) ((4, .int .i64 x) :: r) = fill2 [(0, 1), (1, 1), (2, 1), (3, 1), (4, 1), (5, 1)] (wActC { v with n := x }) r := congrArg (fun q => fill2 [(0, 1), (1, 1), (2, 1), (3, 1), (4, 1), (5, 1)] q r) (wActC_p4 v x)
theorem wActC_k4 (v : WAct) (x : Int) {r : List (Nat × Value)} (h : FillOk [(0, 1), (1, 1), (2, 1), (3, 1), (4, 1), (5, 1)] (wActC v).length r) : FillOk [(0, 1), (1, 1), (2, 1), (3, 1), (4, 1), (5, 1)] (wActC v).length ((4, .int .i64 x) :: r) := ⟨⟨by simp [Value.cells, ], by rw [wActC_len]; rfl⟩, h⟩
theorem wActC_p5 (v : WAct) (x : Int) : (wActC v).take 5 ++ ([.int .i64 x]) ++ (wActC v).drop 6 = wActC { v with more := x } := by
  unfold wActC
  simp [List.take_append, List.drop_append, rootC_len, List.take_of_length_le, List.drop_eq_nil_of_le]
theorem wActC_b5 (v : WAct) (x : Int) (r : List (Nat × Value)) : fill2 [(0, 1), (1, 1), (2, 1), (3, 1), (4, 1), (5, 1)] (wActC v) ((5, .int .i64 x) :: r) = fill2 [(0, 1), (1, 1), (2, 1), (3, 1), (4, 1), (5, 1)] (wActC { v with more := x }) r := congrArg (fun q => fill2 [(0, 1), (1, 1), (2, 1), (3, 1), (4, 1), (5, 1)] q r) (wActC_p5 v x)
theorem wActC_k5 (v : WAct) (x : Int) {r : List (Nat × Value)} (h : FillOk [(0, 1), (1, 1), (2, 1), (3, 1), (4, 1), (5, 1)] (wActC v).length r) : FillOk [(0, 1), (1, 1), (2, 1), (3, 1), (4, 1), (5, 1)] (wActC v).length ((5, .int .i64 x) :: r) := ⟨⟨by simp [Value.cells, ], by rw [wActC_len]; rfl⟩, h⟩
theorem feq_WAct {P : Program} {fs : List Field} {ti tr : TypeId} (hf : (fs.map fun f => (f.name, f.type, f.offset)) = [("Kind", ti, 0), ("Root", ti, 1), ("Parent", ti, 2), ("Slot", ti, 3), ("N", ti, 4), ("More", ti, 5)]) (hi : P.underlying ti = some (.int .i64)) (hr : rootB P tr = true) (a b : WAct) : FEq P (wActC a).toArray (wActC b).toArray fs (decide (a = b)) := by
  obtain ⟨f0, f1, f2, f3, f4, f5, rfl⟩ := list_len6 (by simpa using congrArg List.length hf)
  simp only [List.map_cons, List.map_nil, List.cons.injEq, Prod.mk.injEq, and_true] at hf
  obtain ⟨⟨n0, t0, o0⟩, ⟨n1, t1, o1⟩, ⟨n2, t2, o2⟩, ⟨n3, t3, o3⟩, ⟨n4, t4, o4⟩, ⟨n5, t5, o5⟩⟩ := hf
  have h := feq_int (P := P) (by rw [n0]; decide) (by rw [t0]; exact hi) (by rw [o0]; exact wActC_a0 a) (by rw [o0]; exact wActC_a0 b) (feq_int (by rw [n1]; decide) (by rw [t1]; exact hi) (by rw [o1]; exact wActC_a1 a) (by rw [o1]; exact wActC_a1 b) (feq_int (by rw [n2]; decide) (by rw [t2]; exact hi) (by rw [o2]; exact wActC_a2 a) (by rw [o2]; exact wActC_a2 b) (feq_int (by rw [n3]; decide) (by rw [t3]; exact hi) (by rw [o3]; exact wActC_a3 a) (by rw [o3]; exact wActC_a3 b) (feq_int (by rw [n4]; decide) (by rw [t4]; exact hi) (by rw [o4]; exact wActC_a4 a) (by rw [o4]; exact wActC_a4 b) (feq_int (by rw [n5]; decide) (by rw [t5]; exact hi) (by rw [o5]; exact wActC_a5 a) (by rw [o5]; exact wActC_a5 b) (feq_nil))))))
  have e : (decide (a.kind = b.kind) && (decide (a.root = b.root) && (decide (a.parent = b.parent) && (decide (a.slot = b.slot) && (decide (a.n = b.n) && (decide (a.more = b.more) && (true))))))) = decide (a = b) := by
    rw [Bool.eq_iff_iff]
    cases a; cases b
    simp
  rw [← e]
  exact h
end Go.SL
