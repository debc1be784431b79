import Derived.Test.YtdeemlgkckpedaaX9
set_option linter.unusedVariables false
set_option linter.unusedSimpArgs false
namespace Go.SL
/-! ### PBlk -/
structure PBlk where
  root : Int
  parent : Int
  slot : Int
  n : Int
  deriving DecidableEq
def PBlk.zero : PBlk := ⟨0, 0, 0, 0⟩
def pBlkC (v : PBlk) : List Value := [.int .i64 v.root] ++ ([.int .i64 v.parent] ++ ([.int .i64 v.slot] ++ ([.int .i64 v.n])))
theorem pBlkC_len (v : PBlk) : (pBlkC v).length = 4 := by simp [pBlkC, rootC_len]
theorem pBlkC_take' (v : PBlk) : (pBlkC v).take 4 = pBlkC v := List.take_of_length_le (by rw [pBlkC_len]; exact Nat.le_refl _)
theorem pBlkC_ta (v : PBlk) : ((pBlkC v).drop 0).take 4 = pBlkC v := pBlkC_take' v
theorem pBlkC_one (v : PBlk) : ∀ u ∈ pBlkC v, u.oneCell' = true := fun u hu => by
  simp only [pBlkC, List.mem_append, List.mem_singleton] at hu
  rcases hu with h | h | h | h
  · subst h; rfl
  · subst h; rfl
  · subst h; rfl
  · subst h; rfl
def encPBlk : Enc PBlk := ⟨pBlkC, 4, pBlkC_len, pBlkC_one, by omega⟩
theorem pBlkC_d0 (v : PBlk) : (pBlkC v).drop 0 = [.int .i64 v.root] ++ ([.int .i64 v.parent] ++ ([.int .i64 v.slot] ++ ([.int .i64 v.n]))) := rfl
theorem pBlkC_l0 (v : PBlk) : (pBlkC v)[0]? = some (.int .i64 v.root) := by
  have h := pBlkC_d0 v
  have h2 : ((pBlkC v).drop 0)[0]? = some (.int .i64 v.root) := by rw [h]; rfl
  rwa [List.getElem?_drop] at h2
theorem pBlkC_a0 (v : PBlk) : (pBlkC v).toArray[0]? = some (.int .i64 v.root) := by
  rw [List.getElem?_toArray]; exact pBlkC_l0 v
theorem pBlkC_s0 (v : PBlk) (x : Int) : (pBlkC v).toArray.setIfInBounds 0 (.int .i64 x) = (pBlkC { v with root := x }).toArray := by
  apply Array.toList_inj.1
  rw [Array.toList_setIfInBounds]
  show (pBlkC v).set 0 _ = pBlkC _
  unfold pBlkC
  simp [List.set_append, rootC_len]
theorem pBlkC_d1 (v : PBlk) : (pBlkC v).drop 1 = [.int .i64 v.parent] ++ ([.int .i64 v.slot] ++ ([.int .i64 v.n])) := rfl
theorem pBlkC_l1 (v : PBlk) : (pBlkC v)[1]? = some (.int .i64 v.parent) := by
  have h := pBlkC_d1 v
  have h2 : ((pBlkC v).drop 1)[0]? = some (.int .i64 v.parent) := by rw [h]; rfl
  rwa [List.getElem?_drop] at h2
theorem pBlkC_a1 (v : PBlk) : (pBlkC v).toArray[1]? = some (.int .i64 v.parent) := by
  rw [List.getElem?_toArray]; exact pBlkC_l1 v
theorem pBlkC_s1 (v : PBlk) (x : Int) : (pBlkC v).toArray.setIfInBounds 1 (.int .i64 x) = (pBlkC { v with parent := x }).toArray := by
  apply Array.toList_inj.1
  rw [Array.toList_setIfInBounds]
  show (pBlkC v).set 1 _ = pBlkC _
  unfold pBlkC
  simp [List.set_append, rootC_len]
theorem pBlkC_d2 (v : PBlk) : (pBlkC v).drop 2 = [.int .i64 v.slot] ++ ([.int .i64 v.n]) := rfl
theorem pBlkC_l2 (v : PBlk) : (pBlkC v)[2]? = some (.int .i64 v.slot) := by
  have h := pBlkC_d2 v
  have h2 : ((pBlkC v).drop 2)[0]? = some (.int .i64 v.slot) := by rw [h]; rfl
  rwa [List.getElem?_drop] at h2
theorem pBlkC_a2 (v : PBlk) : (pBlkC v).toArray[2]? = some (.int .i64 v.slot) := by
  rw [List.getElem?_toArray]; exact pBlkC_l2 v
theorem pBlkC_s2 (v : PBlk) (x : Int) : (pBlkC v).toArray.setIfInBounds 2 (.int .i64 x) = (pBlkC { v with slot := x }).toArray := by
  apply Array.toList_inj.1
  rw [Array.toList_setIfInBounds]
  show (pBlkC v).set 2 _ = pBlkC _
  unfold pBlkC
  simp [List.set_append, rootC_len]
theorem pBlkC_d3 (v : PBlk) : (pBlkC v).drop 3 = [.int .i64 v.n] := rfl
theorem pBlkC_l3 (v : PBlk) : (pBlkC v)[3]? = some (.int .i64 v.n) := by
  have h := pBlkC_d3 v
  have h2 : ((pBlkC v).drop 3)[0]? = some (.int .i64 v.n) := by rw [h]; rfl
  rwa [List.getElem?_drop] at h2
theorem pBlkC_a3 (v : PBlk) : (pBlkC v).toArray[3]? = some (.int .i64 v.n) := by
  rw [List.getElem?_toArray]; exact pBlkC_l3 v
theorem pBlkC_s3 (v : PBlk) (x : Int) : (pBlkC v).toArray.setIfInBounds 3 (.int .i64 x) = (pBlkC { v with n := x }).toArray := by
  apply Array.toList_inj.1
  rw [Array.toList_setIfInBounds]
  show (pBlkC v).set 3 _ = pBlkC _
  unfold pBlkC
  simp [List.set_append, rootC_len]
theorem pBlkC_p0 (v : PBlk) (x : Int) : (pBlkC v).take 0 ++ ([.int .i64 x]) ++ (pBlkC v).drop 1 = pBlkC { v with root := x } := by
  unfold pBlkC
  simp [List.take_append, List.drop_append, rootC_len, List.take_of_length_le, List.drop_eq_nil_of_le]
theorem pBlkC_b0 (v : PBlk) (x : Int) (r : List (Nat × Value)) : fill2 [(0, 1), (1, 1), (2, 1), (3, 1)] (pBlkC v) ((0, .int .i64 x) :: r) = fill2 [(0, 1), (1, 1), (2, 1), (3, 1)] (pBlkC { v with root := x }) r := congrArg (fun q => fill2 [(0, 1), (1, 1), (2, 1), (3, 1)] q r) (pBlkC_p0 v x)
theorem pBlkC_k0 (v : PBlk) (x : Int) {r : List (Nat × Value)} (h : FillOk [(0, 1), (1, 1), (2, 1), (3, 1)] (pBlkC v).length r) : FillOk [(0, 1), (1, 1), (2, 1), (3, 1)] (pBlkC v).length ((0, .int .i64 x) :: r) := ⟨⟨by simp [Value.cells, ], by rw [pBlkC_len]; rfl⟩, h⟩
theorem pBlkC_p1 (v : PBlk) (x : Int) : (pBlkC v).take 1 ++ ([.int .i64 x]) ++ (pBlkC v).drop 2 = pBlkC { v with parent := x } := by
  unfold pBlkC
  simp [List.take_append, List.drop_append, rootC_len, List.take_of_length_le, List.drop_eq_nil_of_le]
theorem pBlkC_b1 (v : PBlk) (x : Int) (r : List (Nat × Value)) : fill2 [(0, 1), (1, 1), (2, 1), (3, 1)] (pBlkC v) ((1, .int .i64 x) :: r) = fill2 [(0, 1), (1, 1), (2, 1), (3, 1)] (pBlkC { v with parent := x }) r := congrArg (fun q => fill2 [(0, 1), (1, 1), (2, 1), (3, 1)] q r) (pBlkC_p1 v x)
theorem pBlkC_k1 (v : PBlk) (x : Int) {r : List (Nat × Value)} (h : FillOk [(0, 1), (1, 1), (2, 1), (3, 1)] (pBlkC v).length r) : FillOk [(0, 1), (1, 1), (2, 1), (3, 1)] (pBlkC v).length ((1, .int .i64 x) :: r) := ⟨⟨by simp [Value.cells, ], by rw [pBlkC_len]; rfl⟩, h⟩
theorem pBlkC_p2 (v : PBlk) (x : Int) : (pBlkC v).take 2 ++ ([.int .i64 x]) ++ (pBlkC v).drop 3 = pBlkC { v with slot := x } := by
  unfold pBlkC
  simp [List.take_append, List.drop_append, rootC_len, List.take_of_length_le, List.drop_eq_nil_of_le]
theorem pBlkC_b2 (v : PBlk) (x : Int) (r : List (Nat × Value)) : fill2 [(0, 1), (1, 1), (2, 1), (3, 1)] (pBlkC v) ((2, .int .i64 x) :: r) = fill2 [(0, 1), (1, 1), (2, 1), (3, 1)] (pBlkC { v with slot := x }) r := congrArg (fun q => fill2 [(0, 1), (1, 1), (2, 1), (3, 1)] q r) (pBlkC_p2 v x)
theorem pBlkC_k2 (v : PBlk) (x : Int) {r : List (Nat × Value)} (h : FillOk [(0, 1), (1, 1), (2, 1), (3, 1)] (pBlkC v).length r) : FillOk [(0, 1), (1, 1), (2, 1), (3, 1)] (pBlkC v).length ((2, .int .i64 x) :: r) := ⟨⟨by simp [Value.cells, ], by rw [pBlkC_len]; rfl⟩, h⟩
theorem pBlkC_p3 (v : PBlk) (x : Int) : (pBlkC v).take 3 ++ ([.int .i64 x]) ++ (pBlkC v).drop 4 = pBlkC { v with n := x } := by
  unfold pBlkC
  simp [List.take_append, List.drop_append, rootC_len, List.take_of_length_le, List.drop_eq_nil_of_le]
theorem pBlkC_b3 (v : PBlk) (x : Int) (r : List (Nat × Value)) : fill2 [(0, 1), (1, 1), (2, 1), (3, 1)] (pBlkC v) ((3, .int .i64 x) :: r) = fill2 [(0, 1), (1, 1), (2, 1), (3, 1)] (pBlkC { v with n := x }) r := congrArg (fun q => fill2 [(0, 1), (1, 1), (2, 1), (3, 1)] q r) (pBlkC_p3 v x)
theorem pBlkC_k3 (v : PBlk) (x : Int) {r : List (Nat × Value)} (h : FillOk [(0, 1), (1, 1), (2, 1), (3, 1)] (pBlkC v).length r) : FillOk [(0, 1), (1, 1), (2, 1), (3, 1)] (pBlkC v).length ((3, .int .i64 x) :: r) := ⟨⟨by simp [Value.cells, ], by rw [pBlkC_len]; rfl⟩, h⟩
theorem feq_PBlk {P : Program} {fs : List Field} {ti tr : TypeId} (hf : (fs.map fun f => (f.name, f.type, f.offset)) = [("Root", ti, 0), ("Parent", ti, 1), ("Slot", ti, 2), ("N", ti, 3)]) (hi : P.underlying ti = some (.int .i64)) (hr : rootB P tr = true) (a b : PBlk) : FEq P (pBlkC a).toArray (pBlkC b).toArray fs (decide (a = b)) := by
  obtain ⟨f0, f1, f2, f3, rfl⟩ := list_len4 (by simpa using congrArg List.length hf)
  simp only [List.map_cons, List.map_nil, List.cons.injEq, Prod.mk.injEq, and_true] at hf
  obtain ⟨⟨n0, t0, o0⟩, ⟨n1, t1, o1⟩, ⟨n2, t2, o2⟩, ⟨n3, t3, o3⟩⟩ := hf
  have h := feq_int (P := P) (by rw [n0]; decide) (by rw [t0]; exact hi) (by rw [o0]; exact pBlkC_a0 a) (by rw [o0]; exact pBlkC_a0 b) (feq_int (by rw [n1]; decide) (by rw [t1]; exact hi) (by rw [o1]; exact pBlkC_a1 a) (by rw [o1]; exact pBlkC_a1 b) (feq_int (by rw [n2]; decide) (by rw [t2]; exact hi) (by rw [o2]; exact pBlkC_a2 a) (by rw [o2]; exact pBlkC_a2 b) (feq_int (by rw [n3]; decide) (by rw [t3]; exact hi) (by rw [o3]; exact pBlkC_a3 a) (by rw [o3]; exact pBlkC_a3 b) (feq_nil))))
  have e : (decide (a.root = b.root) && (decide (a.parent = b.parent) && (decide (a.slot = b.slot) && (decide (a.n = b.n) && (true))))) = decide (a = b) := by
    rw [Bool.eq_iff_iff]
    cases a; cases b
    simp
  rw [← e]
  exact h
/-! ### VAct -/
structure VAct where
  kind : Int
  root : Int
  parent : Int
  slot : Int
  who : Int
  deriving DecidableEq
def VAct.zero : VAct := ⟨0, 0, 0, 0, 0⟩
def vActC (v : VAct) : List Value := [.int .i64 v.kind] ++ ([.int .i64 v.root] ++ ([.int .i64 v.parent] ++ ([.int .i64 v.slot] ++ ([.int .i64 v.who]))))
theorem vActC_len (v : VAct) : (vActC v).length = 5 := by simp [vActC, rootC_len]
theorem vActC_take' (v : VAct) : (vActC v).take 5 = vActC v := List.take_of_length_le (by rw [vActC_len]; exact Nat.le_refl _)
theorem vActC_ta (v : VAct) : ((vActC v).drop 0).take 5 = vActC v := vActC_take' v
theorem vActC_one (v : VAct) : ∀ u ∈ vActC v, u.oneCell' = true := fun u hu => by
  simp only [vActC, List.mem_append, List.mem_singleton] at hu
  rcases hu with h | h | h | h | h
  · subst h; rfl
  · subst h; rfl
  · subst h; rfl
  · subst h; rfl
  · subst h; rfl
def encVAct : Enc VAct := ⟨vActC, 5, vActC_len, vActC_one, by omega⟩
theorem vActC_d0 (v : VAct) : (vActC v).drop 0 = [.int .i64 v.kind] ++ ([.int .i64 v.root] ++ ([.int .i64 v.parent] ++ ([.int .i64 v.slot] ++ ([.int .i64 v.who])))) := rfl
theorem vActC_l0 (v : VAct) : (vActC v)[0]? = some (.int .i64 v.kind) := by
  have h := vActC_d0 v
  have h2 : ((vActC v).drop 0)[0]? = some (.int .i64 v.kind) := by rw [h]; rfl
  rwa [List.getElem?_drop] at h2
theorem vActC_a0 (v : VAct) : (vActC v).toArray[0]? = some (.int .i64 v.kind) := by
  rw [List.getElem?_toArray]; exact vActC_l0 v
theorem vActC_s0 (v : VAct) (x : Int) : (vActC v).toArray.setIfInBounds 0 (.int .i64 x) = (vActC { v with kind := x }).toArray := by
  apply Array.toList_inj.1
  rw [Array.toList_setIfInBounds]
  show (vActC v).set 0 _ = vActC _
  unfold vActC
  simp [List.set_append, rootC_len]
theorem vActC_d1 (v : VAct) : (vActC v).drop 1 = [.int .i64 v.root] ++ ([.int .i64 v.parent] ++ ([.int .i64 v.slot] ++ ([.int .i64 v.who]))) := rfl
theorem vActC_l1 (v : VAct) : (vActC v)[1]? = some (.int .i64 v.root) := by
  have h := vActC_d1 v
  have h2 : ((vActC v).drop 1)[0]? = some (.int .i64 v.root) := by rw [h]; rfl
  rwa [List.getElem?_drop] at h2
theorem vActC_a1 (v : VAct) : (vActC v).toArray[1]? = some (.int .i64 v.root) := by
  rw [List.getElem?_toArray]; exact vActC_l1 v
theorem vActC_s1 (v : VAct) (x : Int) : (vActC v).toArray.setIfInBounds 1 (.int .i64 x) = (vActC { v with root := x }).toArray := by
  apply Array.toList_inj.1
  rw [Array.toList_setIfInBounds]
  show (vActC v).set 1 _ = vActC _
  unfold vActC
  simp [List.set_append, rootC_len]
theorem vActC_d2 (v : VAct) : (vActC v).drop 2 = [.int .i64 v.parent] ++ ([.int .i64 v.slot] ++ ([.int .i64 v.who])) := rfl
theorem vActC_l2 (v : VAct) : (vActC v)[2]? = some (.int .i64 v.parent) := by
  have h := vActC_d2 v
  have h2 : ((vActC v).drop 2)[0]? = some (.int .i64 v.parent) := by rw [h]; rfl
  rwa [List.getElem?_drop] at h2
theorem vActC_a2 (v : VAct) : (vActC v).toArray[2]? = some (.int .i64 v.parent) := by
  rw [List.getElem?_toArray]; exact vActC_l2 v
theorem vActC_s2 (v : VAct) (x : Int) : (vActC v).toArray.setIfInBounds 2 (.int .i64 x) = (vActC { v with parent := x }).toArray := by
  apply Array.toList_inj.1
  rw [Array.toList_setIfInBounds]
  show (vActC v).set 2 _ = vActC _
  unfold vActC
  simp [List.set_append, rootC_len]
theorem vActC_d3 (v : VAct) : (vActC v).drop 3 = [.int .i64 v.slot] ++ ([.int .i64 v.who]) := rfl
theorem vActC_l3 (v : VAct) : (vActC v)[3]? = some (.int .i64 v.slot) := by
  have h := vActC_d3 v
  have h2 : ((vActC v).drop 3)[0]? = some (.int .i64 v.slot) := by rw [h]; rfl
  rwa [List.getElem?_drop] at h2
theorem vActC_a3 (v : VAct) : (vActC v).toArray[3]? = some (.int .i64 v.slot) := by
  rw [List.getElem?_toArray]; exact vActC_l3 v
theorem vActC_s3 (v : VAct) (x : Int) : (vActC v).toArray.setIfInBounds 3 (.int .i64 x) = (vActC { v with slot := x }).toArray := by
  apply Array.toList_inj.1
  rw [Array.toList_setIfInBounds]
  show (vActC v).set 3 _ = vActC _
  unfold vActC
  simp [List.set_append, rootC_len]
theorem vActC_d4 (v : VAct) : (vActC v).drop 4 = [.int .i64 v.who] := rfl
theorem vActC_l4 (v : VAct) : (vActC v)[4]? = some (.int .i64 v.who) := by
  have h := vActC_d4 v
  have h2 : ((vActC v).drop 4)[0]? = some (.int .i64 v.who) := by rw [h]; rfl
  rwa [List.getElem?_drop] at h2
theorem vActC_a4 (v : VAct) : (vActC v).toArray[4]? = some (.int .i64 v.who) := by
  rw [List.getElem?_toArray]; exact vActC_l4 v
theorem vActC_s4 (v : VAct) (x : Int) : (vActC v).toArray.setIfInBounds 4 (.int .i64 x) = (vActC { v with who := x }).toArray := by
  apply Array.toList_inj.1
  rw [Array.toList_setIfInBounds]
  show (vActC v).set 4 _ = vActC _
  unfold vActC
  simp [List.set_append, rootC_len]
theorem vActC_p0 (v : VAct) (x : Int) : (vActC v).take 0 ++ ([.int .i64 x]) ++ (vActC v).drop 1 = vActC { v with kind := x } := by
  unfold vActC
  simp [List.take_append, List.drop_append, rootC_len, List.take_of_length_le, List.drop_eq_nil_of_le]
theorem vActC_b0 (v : VAct) (x : Int) (r : List (Nat × Value)) : fill2 [(0, 1), (1, 1), (2, 1), (3, 1), (4, 1)] (vActC v) ((0, .int .i64 x) :: r) = fill2 [(0, 1), (1, 1), (2, 1), (3, 1), (4, 1)] (vActC { v with kind := x }) r := congrArg (fun q => fill2 [(0, 1), (1, 1), (2, 1), (3, 1), (4, 1)] q r) (vActC_p0 v x)
theorem vActC_k0 (v : VAct) (x : Int) {r : List (Nat × Value)} (h : FillOk [(0, 1), (1, 1), (2, 1), (3, 1), (4, 1)] (vActC v).length r) : FillOk [(0, 1), (1, 1), (2, 1), (3, 1), (4, 1)] (vActC v).length ((0, .int .i64 x) :: r) := ⟨⟨by simp [Value.cells, ], by rw [vActC_len]; rfl⟩, h⟩
theorem vActC_p1 (v : VAct) (x : Int) : (vActC v).take 1 ++ ([.int .i64 x]) ++ (vActC v).drop 2 = vActC { v with root := x } := by
  unfold vActC
  simp [List.take_append, List.drop_append, rootC_len, List.take_of_length_le, List.drop_eq_nil_of_le]
theorem vActC_b1 (v : VAct) (x : Int) (r : List (Nat × Value)) : fill2 [(0, 1), (1, 1), (2, 1), (3, 1), (4, 1)] (vActC v) ((1, .int .i64 x) :: r) = fill2 [(0, 1), (1, 1), (2, 1), (3, 1), (4, 1)] (vActC { v with root := x }) r := congrArg (fun q => fill2 [(0, 1), (1, 1), (2, 1), (3, 1), (4, 1)] q r) (vActC_p1 v x)
theorem vActC_k1 (v : VAct) (x : Int) {r : List (Nat × Value)} (h : FillOk [(0, 1), (1, 1), (2, 1), (3, 1), (4, 1)] (vActC v).length r) : FillOk [(0, 1), (1, 1), (2, 1), (3, 1), (4, 1)] (vActC v).length ((1, .int .i64 x) :: r) := ⟨⟨by simp [Value.cells, ], by rw [vActC_len]; rfl⟩, h⟩
theorem vActC_p2 (v : VAct) (x : Int) : (vActC v).take 2 ++ ([.int .i64 x]) ++ (vActC v).drop 3 = vActC { v with parent := x } := by
  unfold vActC
  simp [List.take_append, List.drop_append, rootC_len, List.take_of_length_le, List.drop_eq_nil_of_le]
theorem vActC_b2 (v : VAct) (x : Int) (r : List (Nat × Value)) : fill2 [(0, 1), (1, 1), (2, 1), (3, 1), (4, 1)] (vActC v) ((2, .int .i64 x) :: r) = fill2 [(0, 1), (1, 1), (2, 1), (3, 1), (4, 1)] (vActC { v with parent := x }) r := congrArg (fun q => fill2 [(0, 1), (1, 1), (2, 1), (3, 1), (4, 1)] q r) (vActC_p2 v x)
theorem vActC_k2 (v : VAct) (x : Int) {r : List (Nat × Value)} (h : FillOk [(0, 1), (1, 1), (2, 1), (3, 1), (4, 1)] (vActC v).length r) : FillOk [(0, 1), (1, 1), (2, 1), (3, 1), (4, 1)] (vActC v).length ((2, .int .i64 x) :: r) := ⟨⟨by simp [Value.cells, ], by rw [vActC_len]; rfl⟩, h⟩
theorem vActC_p3 (v : VAct) (x : Int) : (vActC v).take 3 ++ ([.int .i64 x]) ++ (vActC v).drop 4 = vActC { v with slot := x } := by
  unfold vActC
  simp [List.take_append, List.drop_append, rootC_len, List.take_of_length_le, List.drop_eq_nil_of_le]
theorem vActC_b3 (v : VAct) (x : Int) (r : List (Nat × Value)) : fill2 [(0, 1), (1, 1), (2, 1), (3, 1), (4, 1)] (vActC v) ((3, .int .i64 x) :: r) = fill2 [(0, 1), (1, 1), (2, 1), (3, 1), (4, 1)] (vActC { v with slot := x }) r := congrArg (fun q => fill2 [(0, 1), (1, 1), (2, 1), (3, 1), (4, 1)] q r) (vActC_p3 v x)
theorem vActC_k3 (v : VAct) (x : Int) {r : List (Nat × Value)} (h : FillOk [(0, 1), (1, 1), (2, 1), (3, 1), (4, 1)] (vActC v).length r) : FillOk [(0, 1), (1, 1), (2, 1), (3, 1), (4, 1)] (vActC v).length ((3, .int .i64 x) :: r) := ⟨⟨by simp [Value.cells, ], by rw [vActC_len]; rfl⟩, h⟩
theorem vActC_p4 (v : VAct) (x : Int) : (vActC v).take 4 ++ ([.int .i64 x]) ++ (vActC v).drop 5 = vActC { v with who := x } := by
  unfold vActC
  simp [List.take_append, List.drop_append, rootC_len, List.take_of_length_le, List.drop_eq_nil_of_le]
theorem vActC_b4 (v : VAct) (x : Int) (r : List (Nat × Value)) : fill2 [(0, 1), (1, 1), (2, 1), (3, 1), (4, 1)] (vActC v) ((4, .int .i64 x) :: r) = fill2 [(0, 1), (1, 1), (2, 1), (3, 1), (4, 1)] (vActC { v with who := x }) r := congrArg (fun q => fill2 [(0, 1), (1, 1), (2, 1), (3, 1), (4, 1)] q r) (vActC_p4 v x)
theorem vActC_k4 (v : VAct) (x : Int) {r : List (Nat × Value)} (h : FillOk [(0, 1), (1, 1), (2, 1), (3, 1), (4, 1)] (vActC v).length r) : FillOk [(0, 1), (1, 1), (2, 1), (3, 1), (4, 1)] (vActC v).length ((4, .int .i64 x) :: r) := ⟨⟨by simp [Value.cells, ], by rw [vActC_len]; rfl⟩, h⟩
theorem feq_VAct {P : Program} {fs : List Field} {ti tr : TypeId} (hf : (fs.map fun f => (f.name, f.type, f.offset)) = [("Kind", ti, 0), ("Root", ti, 1), ("Parent", ti, 2), ("Slot", ti, 3), ("Who", ti, 4)]) (hi : P.underlying ti = some (.int .i64)) (hr : rootB P tr = true) (a b : VAct) : FEq P (vActC a).toArray (vActC b).toArray fs (decide (a = b)) := by
  obtain ⟨f0, f1, f2, f3, f4, rfl⟩ := list_len5 (by simpa using congrArg List.length hf)
  simp only [List.map_cons, List.map_nil, List.cons.injEq, Prod.mk.injEq, and_true] at hf
  obtain ⟨⟨n0, t0, o0⟩, ⟨n1, t1, o1⟩, ⟨n2, t2, o2⟩, ⟨n3, t3, o3⟩, ⟨n4, t4, o4⟩⟩ := hf
  have h := feq_int (P := P) (by rw [n0]; decide) (by rw [t0]; exact hi) (by rw [o0]; exact vActC_a0 a) (by rw [o0]; exact vActC_a0 b) (feq_int (by rw [n1]; decide) (by rw [t1]; exact hi) (by rw [o1]; exact vActC_a1 a) (by rw [o1]; exact vActC_a1 b) (feq_int (by rw [n2]; decide) (by rw [t2]; exact hi) (by rw [o2]; exact vActC_a2 a) (by rw [o2]; exact vActC_a2 b) (feq_int (by rw [n3]; decide) (by rw [t3]; exact hi) (by rw [o3]; exact vActC_a3 a) (by rw [o3]; exact vActC_a3 b) (feq_int (by rw [n4]; decide) (by rw [t4]; exact hi) (by rw [o4]; exact vActC_a4 a) (by rw [o4]; exact vActC_a4 b) (feq_nil)))))
  have e : (decide (a.kind = b.kind) && (decide (a.root = b.root) && (decide (a.parent = b.parent) && (decide (a.slot = b.slot) && (decide (a.who = b.who) && (true)))))) = decide (a = b) := by
    rw [Bool.eq_iff_iff]
    cases a; cases b
    simp
  rw [← e]
  exact h
end Go.SL
