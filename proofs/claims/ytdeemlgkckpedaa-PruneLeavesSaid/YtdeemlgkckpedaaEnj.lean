import Derived.Test.YtdeemlgkckpedaaEnh
set_option linter.unusedVariables false
set_option linter.unusedSimpArgs false
namespace Go.SL
open Go.WideShapes
/-- a slice, as a value -/
structure SlV where
  a : Option Addr
  n : Nat
  c : Nat
  deriving DecidableEq
@[reducible] def SlV.v (s : SlV) : Value := .slice s.a s.n s.c
/-! ### Val -/
structure Val where
  stake : Int
  key : List UInt8
  deriving DecidableEq
def Val.zero : Val := ⟨0, []⟩
def valC (v : Val) : List Value := [.int .i64 v.stake] ++ ([.string (B v.key)])
theorem valC_len (v : Val) : (valC v).length = 2 := by simp [valC, rootC_len]
theorem valC_take' (v : Val) : (valC v).take 2 = valC v := List.take_of_length_le (by rw [valC_len]; exact Nat.le_refl _)
theorem valC_ta (v : Val) : ((valC v).drop 0).take 2 = valC v := valC_take' v
theorem valC_one (v : Val) : ∀ u ∈ valC v, u.oneCell' = true := fun u hu => by
  simp only [valC, List.mem_append, List.mem_singleton] at hu
  rcases hu with h | h
  · subst h; rfl
  · subst h; rfl
def encVal : Enc Val := ⟨valC, 2, valC_len, valC_one, by omega⟩
theorem valC_d0 (v : Val) : (valC v).drop 0 = [.int .i64 v.stake] ++ ([.string (B v.key)]) := rfl
theorem valC_l0 (v : Val) : (valC v)[0]? = some (.int .i64 v.stake) := by
  have h := valC_d0 v
  have h2 : ((valC v).drop 0)[0]? = some (.int .i64 v.stake) := by rw [h]; rfl
  rwa [List.getElem?_drop] at h2
theorem valC_a0 (v : Val) : (valC v).toArray[0]? = some (.int .i64 v.stake) := by
  rw [List.getElem?_toArray]; exact valC_l0 v
theorem valC_s0 (v : Val) (x : Int) : (valC v).toArray.setIfInBounds 0 (.int .i64 x) = (valC { v with stake := x }).toArray := by
  apply Array.toList_inj.1
  rw [Array.toList_setIfInBounds]
  show (valC v).set 0 _ = valC _
  unfold valC
  simp [List.set_append, rootC_len]
theorem valC_d1 (v : Val) : (valC v).drop 1 = [.string (B v.key)] := rfl
theorem valC_l1 (v : Val) : (valC v)[1]? = some (.string (B v.key)) := by
  have h := valC_d1 v
  have h2 : ((valC v).drop 1)[0]? = some (.string (B v.key)) := by rw [h]; rfl
  rwa [List.getElem?_drop] at h2
theorem valC_a1 (v : Val) : (valC v).toArray[1]? = some (.string (B v.key)) := by
  rw [List.getElem?_toArray]; exact valC_l1 v
theorem valC_s1 (v : Val) (x : List UInt8) : (valC v).toArray.setIfInBounds 1 (.string (B x)) = (valC { v with key := x }).toArray := by
  apply Array.toList_inj.1
  rw [Array.toList_setIfInBounds]
  show (valC v).set 1 _ = valC _
  unfold valC
  simp [List.set_append, rootC_len]
theorem valC_p0 (v : Val) (x : Int) : (valC v).take 0 ++ ([.int .i64 x]) ++ (valC v).drop 1 = valC { v with stake := x } := by
  unfold valC
  simp [List.take_append, List.drop_append, rootC_len, List.take_of_length_le, List.drop_eq_nil_of_le]
theorem valC_b0 (v : Val) (x : Int) (r : List (Nat × Value)) : fill2 [(0, 1), (1, 1)] (valC v) ((0, .int .i64 x) :: r) = fill2 [(0, 1), (1, 1)] (valC { v with stake := x }) r := congrArg (fun q => fill2 [(0, 1), (1, 1)] q r) (valC_p0 v x)
theorem valC_k0 (v : Val) (x : Int) {r : List (Nat × Value)} (h : FillOk [(0, 1), (1, 1)] (valC v).length r) : FillOk [(0, 1), (1, 1)] (valC v).length ((0, .int .i64 x) :: r) := ⟨⟨by simp [Value.cells, ], by rw [valC_len]; rfl⟩, h⟩
theorem valC_p1 (v : Val) (x : List UInt8) : (valC v).take 1 ++ ([.string (B x)]) ++ (valC v).drop 2 = valC { v with key := x } := by
  unfold valC
  simp [List.take_append, List.drop_append, rootC_len, List.take_of_length_le, List.drop_eq_nil_of_le]
theorem valC_b1 (v : Val) (x : List UInt8) (r : List (Nat × Value)) : fill2 [(0, 1), (1, 1)] (valC v) ((1, .string (B x)) :: r) = fill2 [(0, 1), (1, 1)] (valC { v with key := x }) r := congrArg (fun q => fill2 [(0, 1), (1, 1)] q r) (valC_p1 v x)
theorem valC_k1 (v : Val) (x : List UInt8) {r : List (Nat × Value)} (h : FillOk [(0, 1), (1, 1)] (valC v).length r) : FillOk [(0, 1), (1, 1)] (valC v).length ((1, .string (B x)) :: r) := ⟨⟨by simp [Value.cells, ], by rw [valC_len]; rfl⟩, h⟩
/-! ### Cfg -/
structure Cfg where
  vs : SlV
  epoch : Int
  committee : Int
  nodes : Int
  orphans : Int
  early : Int
  quota : Int
  peers : Int
  bytes : Int
  window : Int
  ban : Int
  decay : Int
  deriving DecidableEq
def Cfg.zero : Cfg := ⟨⟨none, 0, 0⟩, 0, 0, 0, 0, 0, 0, 0, 0, 0, 0, 0⟩
def cfgC (v : Cfg) : List Value := [SlV.v v.vs] ++ ([.int .i64 v.epoch] ++ ([.int .i64 v.committee] ++ ([.int .i64 v.nodes] ++ ([.int .i64 v.orphans] ++ ([.int .i64 v.early] ++ ([.int .i64 v.quota] ++ ([.int .i64 v.peers] ++ ([.int .i64 v.bytes] ++ ([.int .i64 v.window] ++ ([.int .i64 v.ban] ++ ([.int .i64 v.decay])))))))))))
theorem cfgC_len (v : Cfg) : (cfgC v).length = 12 := by simp [cfgC, rootC_len]
theorem cfgC_take' (v : Cfg) : (cfgC v).take 12 = cfgC v := List.take_of_length_le (by rw [cfgC_len]; exact Nat.le_refl _)
theorem cfgC_ta (v : Cfg) : ((cfgC v).drop 0).take 12 = cfgC v := cfgC_take' v
theorem cfgC_one (v : Cfg) : ∀ u ∈ cfgC v, u.oneCell' = true := fun u hu => by
  simp only [cfgC, List.mem_append, List.mem_singleton] at hu
  rcases hu with h | h | h | h | h | h | h | h | h | h | h | h
  · subst h; rfl
  · subst h; rfl
  · subst h; rfl
  · subst h; rfl
  · subst h; rfl
  · subst h; rfl
  · subst h; rfl
  · subst h; rfl
  · subst h; rfl
  · subst h; rfl
  · subst h; rfl
  · subst h; rfl
def encCfg : Enc Cfg := ⟨cfgC, 12, cfgC_len, cfgC_one, by omega⟩
theorem cfgC_d0 (v : Cfg) : (cfgC v).drop 0 = [SlV.v v.vs] ++ ([.int .i64 v.epoch] ++ ([.int .i64 v.committee] ++ ([.int .i64 v.nodes] ++ ([.int .i64 v.orphans] ++ ([.int .i64 v.early] ++ ([.int .i64 v.quota] ++ ([.int .i64 v.peers] ++ ([.int .i64 v.bytes] ++ ([.int .i64 v.window] ++ ([.int .i64 v.ban] ++ ([.int .i64 v.decay]))))))))))) := rfl
theorem cfgC_l0 (v : Cfg) : (cfgC v)[0]? = some (SlV.v v.vs) := by
  have h := cfgC_d0 v
  have h2 : ((cfgC v).drop 0)[0]? = some (SlV.v v.vs) := by rw [h]; rfl
  rwa [List.getElem?_drop] at h2
theorem cfgC_a0 (v : Cfg) : (cfgC v).toArray[0]? = some (SlV.v v.vs) := by
  rw [List.getElem?_toArray]; exact cfgC_l0 v
theorem cfgC_s0 (v : Cfg) (x : SlV) : (cfgC v).toArray.setIfInBounds 0 (SlV.v x) = (cfgC { v with vs := x }).toArray := by
  apply Array.toList_inj.1
  rw [Array.toList_setIfInBounds]
  show (cfgC v).set 0 _ = cfgC _
  unfold cfgC
  simp [List.set_append, rootC_len]
theorem cfgC_d1 (v : Cfg) : (cfgC v).drop 1 = [.int .i64 v.epoch] ++ ([.int .i64 v.committee] ++ ([.int .i64 v.nodes] ++ ([.int .i64 v.orphans] ++ ([.int .i64 v.early] ++ ([.int .i64 v.quota] ++ ([.int .i64 v.peers] ++ ([.int .i64 v.bytes] ++ ([.int .i64 v.window] ++ ([.int .i64 v.ban] ++ ([.int .i64 v.decay])))))))))) := rfl
theorem cfgC_l1 (v : Cfg) : (cfgC v)[1]? = some (.int .i64 v.epoch) := by
  have h := cfgC_d1 v
  have h2 : ((cfgC v).drop 1)[0]? = some (.int .i64 v.epoch) := by rw [h]; rfl
  rwa [List.getElem?_drop] at h2
theorem cfgC_a1 (v : Cfg) : (cfgC v).toArray[1]? = some (.int .i64 v.epoch) := by
  rw [List.getElem?_toArray]; exact cfgC_l1 v
theorem cfgC_s1 (v : Cfg) (x : Int) : (cfgC v).toArray.setIfInBounds 1 (.int .i64 x) = (cfgC { v with epoch := x }).toArray := by
  apply Array.toList_inj.1
  rw [Array.toList_setIfInBounds]
  show (cfgC v).set 1 _ = cfgC _
  unfold cfgC
  simp [List.set_append, rootC_len]
theorem cfgC_d2 (v : Cfg) : (cfgC v).drop 2 = [.int .i64 v.committee] ++ ([.int .i64 v.nodes] ++ ([.int .i64 v.orphans] ++ ([.int .i64 v.early] ++ ([.int .i64 v.quota] ++ ([.int .i64 v.peers] ++ ([.int .i64 v.bytes] ++ ([.int .i64 v.window] ++ ([.int .i64 v.ban] ++ ([.int .i64 v.decay]))))))))) := rfl
theorem cfgC_l2 (v : Cfg) : (cfgC v)[2]? = some (.int .i64 v.committee) := by
  have h := cfgC_d2 v
  have h2 : ((cfgC v).drop 2)[0]? = some (.int .i64 v.committee) := by rw [h]; rfl
  rwa [List.getElem?_drop] at h2
theorem cfgC_a2 (v : Cfg) : (cfgC v).toArray[2]? = some (.int .i64 v.committee) := by
  rw [List.getElem?_toArray]; exact cfgC_l2 v
theorem cfgC_s2 (v : Cfg) (x : Int) : (cfgC v).toArray.setIfInBounds 2 (.int .i64 x) = (cfgC { v with committee := x }).toArray := by
  apply Array.toList_inj.1
  rw [Array.toList_setIfInBounds]
  show (cfgC v).set 2 _ = cfgC _
  unfold cfgC
  simp [List.set_append, rootC_len]
theorem cfgC_d3 (v : Cfg) : (cfgC v).drop 3 = [.int .i64 v.nodes] ++ ([.int .i64 v.orphans] ++ ([.int .i64 v.early] ++ ([.int .i64 v.quota] ++ ([.int .i64 v.peers] ++ ([.int .i64 v.bytes] ++ ([.int .i64 v.window] ++ ([.int .i64 v.ban] ++ ([.int .i64 v.decay])))))))) := rfl
theorem cfgC_l3 (v : Cfg) : (cfgC v)[3]? = some (.int .i64 v.nodes) := by
  have h := cfgC_d3 v
  have h2 : ((cfgC v).drop 3)[0]? = some (.int .i64 v.nodes) := by rw [h]; rfl
  rwa [List.getElem?_drop] at h2
theorem cfgC_a3 (v : Cfg) : (cfgC v).toArray[3]? = some (.int .i64 v.nodes) := by
  rw [List.getElem?_toArray]; exact cfgC_l3 v
theorem cfgC_s3 (v : Cfg) (x : Int) : (cfgC v).toArray.setIfInBounds 3 (.int .i64 x) = (cfgC { v with nodes := x }).toArray := by
  apply Array.toList_inj.1
  rw [Array.toList_setIfInBounds]
  show (cfgC v).set 3 _ = cfgC _
  unfold cfgC
  simp [List.set_append, rootC_len]
theorem cfgC_d4 (v : Cfg) : (cfgC v).drop 4 = [.int .i64 v.orphans] ++ ([.int .i64 v.early] ++ ([.int .i64 v.quota] ++ ([.int .i64 v.peers] ++ ([.int .i64 v.bytes] ++ ([.int .i64 v.window] ++ ([.int .i64 v.ban] ++ ([.int .i64 v.decay]))))))) := rfl
theorem cfgC_l4 (v : Cfg) : (cfgC v)[4]? = some (.int .i64 v.orphans) := by
  have h := cfgC_d4 v
  have h2 : ((cfgC v).drop 4)[0]? = some (.int .i64 v.orphans) := by rw [h]; rfl
  rwa [List.getElem?_drop] at h2
theorem cfgC_a4 (v : Cfg) : (cfgC v).toArray[4]? = some (.int .i64 v.orphans) := by
  rw [List.getElem?_toArray]; exact cfgC_l4 v
theorem cfgC_s4 (v : Cfg) (x : Int) : (cfgC v).toArray.setIfInBounds 4 (.int .i64 x) = (cfgC { v with orphans := x }).toArray := by
  apply Array.toList_inj.1
  rw [Array.toList_setIfInBounds]
  show (cfgC v).set 4 _ = cfgC _
  unfold cfgC
  simp [List.set_append, rootC_len]
theorem cfgC_d5 (v : Cfg) : (cfgC v).drop 5 = [.int .i64 v.early] ++ ([.int .i64 v.quota] ++ ([.int .i64 v.peers] ++ ([.int .i64 v.bytes] ++ ([.int .i64 v.window] ++ ([.int .i64 v.ban] ++ ([.int .i64 v.decay])))))) := rfl
theorem cfgC_l5 (v : Cfg) : (cfgC v)[5]? = some (.int .i64 v.early) := by
  have h := cfgC_d5 v
  have h2 : ((cfgC v).drop 5)[0]? = some (.int .i64 v.early) := by rw [h]; rfl
  rwa [List.getElem?_drop] at h2
theorem cfgC_a5 (v : Cfg) : (cfgC v).toArray[5]? = some (.int .i64 v.early) := by
  rw [List.getElem?_toArray]; exact cfgC_l5 v
theorem cfgC_s5 (v : Cfg) (x : Int) : (cfgC v).toArray.setIfInBounds 5 (.int .i64 x) = (cfgC { v with early := x }).toArray := by
  apply Array.toList_inj.1
  rw [Array.toList_setIfInBounds]
  show (cfgC v).set 5 _ = cfgC _
  unfold cfgC
  simp [List.set_append, rootC_len]
theorem cfgC_d6 (v : Cfg) : (cfgC v).drop 6 = [.int .i64 v.quota] ++ ([.int .i64 v.peers] ++ ([.int .i64 v.bytes] ++ ([.int .i64 v.window] ++ ([.int .i64 v.ban] ++ ([.int .i64 v.decay]))))) := rfl
theorem cfgC_l6 (v : Cfg) : (cfgC v)[6]? = some (.int .i64 v.quota) := by
  have h := cfgC_d6 v
  have h2 : ((cfgC v).drop 6)[0]? = some (.int .i64 v.quota) := by rw [h]; rfl
  rwa [List.getElem?_drop] at h2
theorem cfgC_a6 (v : Cfg) : (cfgC v).toArray[6]? = some (.int .i64 v.quota) := by
  rw [List.getElem?_toArray]; exact cfgC_l6 v
theorem cfgC_s6 (v : Cfg) (x : Int) : (cfgC v).toArray.setIfInBounds 6 (.int .i64 x) = (cfgC { v with quota := x }).toArray := by
  apply Array.toList_inj.1
  rw [Array.toList_setIfInBounds]
  show (cfgC v).set 6 _ = cfgC _
  unfold cfgC
  simp [List.set_append, rootC_len]
theorem cfgC_d7 (v : Cfg) : (cfgC v).drop 7 = [.int .i64 v.peers] ++ ([.int .i64 v.bytes] ++ ([.int .i64 v.window] ++ ([.int .i64 v.ban] ++ ([.int .i64 v.decay])))) := rfl
theorem cfgC_l7 (v : Cfg) : (cfgC v)[7]? = some (.int .i64 v.peers) := by
  have h := cfgC_d7 v
  have h2 : ((cfgC v).drop 7)[0]? = some (.int .i64 v.peers) := by rw [h]; rfl
  rwa [List.getElem?_drop] at h2
theorem cfgC_a7 (v : Cfg) : (cfgC v).toArray[7]? = some (.int .i64 v.peers) := by
  rw [List.getElem?_toArray]; exact cfgC_l7 v
theorem cfgC_s7 (v : Cfg) (x : Int) : (cfgC v).toArray.setIfInBounds 7 (.int .i64 x) = (cfgC { v with peers := x }).toArray := by
  apply Array.toList_inj.1
  rw [Array.toList_setIfInBounds]
  show (cfgC v).set 7 _ = cfgC _
  unfold cfgC
  simp [List.set_append, rootC_len]
theorem cfgC_d8 (v : Cfg) : (cfgC v).drop 8 = [.int .i64 v.bytes] ++ ([.int .i64 v.window] ++ ([.int .i64 v.ban] ++ ([.int .i64 v.decay]))) := rfl
theorem cfgC_l8 (v : Cfg) : (cfgC v)[8]? = some (.int .i64 v.bytes) := by
  have h := cfgC_d8 v
  have h2 : ((cfgC v).drop 8)[0]? = some (.int .i64 v.bytes) := by rw [h]; rfl
  rwa [List.getElem?_drop] at h2
theorem cfgC_a8 (v : Cfg) : (cfgC v).toArray[8]? = some (.int .i64 v.bytes) := by
  rw [List.getElem?_toArray]; exact cfgC_l8 v
theorem cfgC_s8 (v : Cfg) (x : Int) : (cfgC v).toArray.setIfInBounds 8 (.int .i64 x) = (cfgC { v with bytes := x }).toArray := by
  apply Array.toList_inj.1
  rw [Array.toList_setIfInBounds]
  show (cfgC v).set 8 _ = cfgC _
  unfold cfgC
  simp [List.set_append, rootC_len]
theorem cfgC_d9 (v : Cfg) : (cfgC v).drop 9 = [.int .i64 v.window] ++ ([.int .i64 v.ban] ++ ([.int .i64 v.decay])) := rfl
theorem cfgC_l9 (v : Cfg) : (cfgC v)[9]? = some (.int .i64 v.window) := by
  have h := cfgC_d9 v
  have h2 : ((cfgC v).drop 9)[0]? = some (.int .i64 v.window) := by rw [h]; rfl
  rwa [List.getElem?_drop] at h2
theorem cfgC_a9 (v : Cfg) : (cfgC v).toArray[9]? = some (.int .i64 v.window) := by
  rw [List.getElem?_toArray]; exact cfgC_l9 v
theorem cfgC_s9 (v : Cfg) (x : Int) : (cfgC v).toArray.setIfInBounds 9 (.int .i64 x) = (cfgC { v with window := x }).toArray := by
  apply Array.toList_inj.1
  rw [Array.toList_setIfInBounds]
  show (cfgC v).set 9 _ = cfgC _
  unfold cfgC
  simp [List.set_append, rootC_len]
theorem cfgC_d10 (v : Cfg) : (cfgC v).drop 10 = [.int .i64 v.ban] ++ ([.int .i64 v.decay]) := rfl
theorem cfgC_l10 (v : Cfg) : (cfgC v)[10]? = some (.int .i64 v.ban) := by
  have h := cfgC_d10 v
  have h2 : ((cfgC v).drop 10)[0]? = some (.int .i64 v.ban) := by rw [h]; rfl
  rwa [List.getElem?_drop] at h2
theorem cfgC_a10 (v : Cfg) : (cfgC v).toArray[10]? = some (.int .i64 v.ban) := by
  rw [List.getElem?_toArray]; exact cfgC_l10 v
theorem cfgC_s10 (v : Cfg) (x : Int) : (cfgC v).toArray.setIfInBounds 10 (.int .i64 x) = (cfgC { v with ban := x }).toArray := by
  apply Array.toList_inj.1
  rw [Array.toList_setIfInBounds]
  show (cfgC v).set 10 _ = cfgC _
  unfold cfgC
  simp [List.set_append, rootC_len]
theorem cfgC_d11 (v : Cfg) : (cfgC v).drop 11 = [.int .i64 v.decay] := rfl
theorem cfgC_l11 (v : Cfg) : (cfgC v)[11]? = some (.int .i64 v.decay) := by
  have h := cfgC_d11 v
  have h2 : ((cfgC v).drop 11)[0]? = some (.int .i64 v.decay) := by rw [h]; rfl
  rwa [List.getElem?_drop] at h2
theorem cfgC_a11 (v : Cfg) : (cfgC v).toArray[11]? = some (.int .i64 v.decay) := by
  rw [List.getElem?_toArray]; exact cfgC_l11 v
theorem cfgC_s11 (v : Cfg) (x : Int) : (cfgC v).toArray.setIfInBounds 11 (.int .i64 x) = (cfgC { v with decay := x }).toArray := by
  apply Array.toList_inj.1
  rw [Array.toList_setIfInBounds]
  show (cfgC v).set 11 _ = cfgC _
  unfold cfgC
  simp [List.set_append, rootC_len]
theorem cfgC_p0 (v : Cfg) (x : SlV) : (cfgC v).take 0 ++ ([SlV.v x]) ++ (cfgC v).drop 1 = cfgC { v with vs := x } := by
  unfold cfgC
  simp [List.take_append, List.drop_append, rootC_len, List.take_of_length_le, List.drop_eq_nil_of_le]
theorem cfgC_b0 (v : Cfg) (x : SlV) (r : List (Nat × Value)) : fill2 [(0, 1), (1, 1), (2, 1), (3, 1), (4, 1), (5, 1), (6, 1), (7, 1), (8, 1), (9, 1), (10, 1), (11, 1)] (cfgC v) ((0, SlV.v x) :: r) = fill2 [(0, 1), (1, 1), (2, 1), (3, 1), (4, 1), (5, 1), (6, 1), (7, 1), (8, 1), (9, 1), (10, 1), (11, 1)] (cfgC { v with vs := x }) r := congrArg (fun q => fill2 [(0, 1), (1, 1), (2, 1), (3, 1), (4, 1), (5, 1), (6, 1), (7, 1), (8, 1), (9, 1), (10, 1), (11, 1)] q r) (cfgC_p0 v x)
theorem cfgC_k0 (v : Cfg) (x : SlV) {r : List (Nat × Value)} (h : FillOk [(0, 1), (1, 1), (2, 1), (3, 1), (4, 1), (5, 1), (6, 1), (7, 1), (8, 1), (9, 1), (10, 1), (11, 1)] (cfgC v).length r) : FillOk [(0, 1), (1, 1), (2, 1), (3, 1), (4, 1), (5, 1), (6, 1), (7, 1), (8, 1), (9, 1), (10, 1), (11, 1)] (cfgC v).length ((0, SlV.v x) :: r) := ⟨⟨by simp [Value.cells, ], by rw [cfgC_len]; rfl⟩, h⟩
theorem cfgC_p1 (v : Cfg) (x : Int) : (cfgC v).take 1 ++ ([.int .i64 x]) ++ (cfgC v).drop 2 = cfgC { v with epoch := x } := by
  unfold cfgC
  simp [List.take_append, List.drop_append, rootC_len, List.take_of_length_le, List.drop_eq_nil_of_le]
theorem cfgC_b1 (v : Cfg) (x : Int) (r : List (Nat × Value)) : fill2 [(0, 1), (1, 1), (2, 1), (3, 1), (4, 1), (5, 1), (6, 1), (7, 1), (8, 1), (9, 1), (10, 1), (11, 1)] (cfgC v) ((1, .int .i64 x) :: r) = fill2 [(0, 1), (1, 1), (2, 1), (3, 1), (4, 1), (5, 1), (6, 1), (7, 1), (8, 1), (9, 1), (10, 1), (11, 1)] (cfgC { v with epoch := x }) r := congrArg (fun q => fill2 [(0, 1), (1, 1), (2, 1), (3, 1), (4, 1), (5, 1), (6, 1), (7, 1), (8, 1), (9, 1), (10, 1), (11, 1)] q r) (cfgC_p1 v x)
theorem cfgC_k1 (v : Cfg) (x : Int) {r : List (Nat × Value)} (h : FillOk [(0, 1), (1, 1), (2, 1), (3, 1), (4, 1), (5, 1), (6, 1), (7, 1), (8, 1), (9, 1), (10, 1), (11, 1)] (cfgC v).length r) : FillOk [(0, 1), (1, 1), (2, 1), (3, 1), (4, 1), (5, 1), (6, 1), (7, 1), (8, 1), (9, 1), (10, 1), (11, 1)] (cfgC v).length ((1, .int .i64 x) :: r) := ⟨⟨by simp [Value.cells, ], by rw [cfgC_len]; rfl⟩, h⟩
theorem cfgC_p2 (v : Cfg) (x : Int) : (cfgC v).take 2 ++ ([.int .i64 x]) ++ (cfgC v).drop 3 = cfgC { v with committee := x } := by
  unfold cfgC
  simp [List.take_append, List.drop_append, rootC_len, List.take_of_length_le, List.drop_eq_nil_of_le]
theorem cfgC_b2 (v : Cfg) (x : Int) (r : List (Nat × Value)) : fill2 [(0, 1), (1, 1), (2, 1), (3, 1), (4, 1), (5, 1), (6, 1), (7, 1), (8, 1), (9, 1), (10, 1), (11, 1)] (cfgC v) ((2, .int .i64 x) :: r) = fill2 [(0, 1), (1, 1), (2, 1), (3, 1), (4, 1), (5, 1), (6, 1), (7, 1), (8, 1), (9, 1), (10, 1), (11, 1)] (cfgC { v with committee := x }) r := congrArg (fun q => fill2 [(0, 1), (1, 1), (2, 1), (3, 1), (4, 1), (5, 1), (6, 1), (7, 1), (8, 1), (9, 1), (10, 1), (11, 1)] q r) (cfgC_p2 v x)
theorem cfgC_k2 (v : Cfg) (x : Int) {r : List (Nat × Value)} (h : FillOk [(0, 1), (1, 1), (2, 1), (3, 1), (4, 1), (5, 1), (6, 1), (7, 1), (8, 1), (9, 1), (10, 1), (11, 1)] (cfgC v).length r) : FillOk [(0, 1), (1, 1), (2, 1), (3, 1), (4, 1), (5, 1), (6, 1), (7, 1), (8, 1), (9, 1), (10, 1), (11, 1)] (cfgC v).length ((2, .int .i64 x) :: r) := ⟨⟨by simp [Value.cells, ], by rw [cfgC_len]; rfl⟩, h⟩
theorem cfgC_p3 (v : Cfg) (x : Int) : (cfgC v).take 3 ++ ([.int .i64 x]) ++ (cfgC v).drop 4 = cfgC { v with nodes := x } := by
  unfold cfgC
  simp [List.take_append, List.drop_append, rootC_len, List.take_of_length_le, List.drop_eq_nil_of_le]
theorem cfgC_b3 (v : Cfg) (x : Int) (r : List (Nat × Value)) : fill2 [(0, 1), (1, 1), (2, 1), (3, 1), (4, 1), (5, 1), (6, 1), (7, 1), (8, 1), (9, 1), (10, 1), (11, 1)] (cfgC v) ((3, .int .i64 x) :: r) = fill2 [(0, 1), (1, 1), (2, 1), (3, 1), (4, 1), (5, 1), (6, 1), (7, 1), (8, 1), (9, 1), (10, 1), (11, 1)] (cfgC { v with nodes := x }) r := congrArg (fun q => fill2 [(0, 1), (1, 1), (2, 1), (3, 1), (4, 1), (5, 1), (6, 1), (7, 1), (8, 1), (9, 1), (10, 1), (11, 1)] q r) (cfgC_p3 v x)
theorem cfgC_k3 (v : Cfg) (x : Int) {r : List (Nat × Value)} (h : FillOk [(0, 1), (1, 1), (2, 1), (3, 1), (4, 1), (5, 1), (6, 1), (7, 1), (8, 1), (9, 1), (10, 1), (11, 1)] (cfgC v).length r) : FillOk [(0, 1), (1, 1), (2, 1), (3, 1), (4, 1), (5, 1), (6, 1), (7, 1), (8, 1), (9, 1), (10, 1), (11, 1)] (cfgC v).length ((3, .int .i64 x) :: r) := ⟨⟨by simp [Value.cells, ], by rw [cfgC_len]; rfl⟩, h⟩
theorem cfgC_p4 (v : Cfg) (x : Int) : (cfgC v).take 4 ++ ([.int .i64 x]) ++ (cfgC v).drop 5 = cfgC { v with orphans := x } := by
  unfold cfgC
  simp [List.take_append, List.drop_append, rootC_len, List.take_of_length_le, List.drop_eq_nil_of_le]
theorem cfgC_b4 (v : Cfg) (x : Int) (r : List (Nat × Value)) : fill2 [(0, 1), (1, 1), (2, 1), (3, 1), (4, 1), (5, 1), (6, 1), (7, 1), (8, 1), (9, 1), (10, 1), (11, 1)] (cfgC v) ((4, .int .i64 x) :: r) = fill2 [(0, 1), (1, 1), (2, 1), (3, 1), (4, 1), (5, 1), (6, 1), (7, 1), (8, 1), (9, 1), (10, 1), (11, 1)] (cfgC { v with orphans := x }) r := congrArg (fun q => fill2 [(0, 1), (1, 1), (2, 1), (3, 1), (4, 1), (5, 1), (6, 1), (7, 1), (8, 1), (9, 1), (10, 1), (11, 1)] q r) (cfgC_p4 v x)
theorem cfgC_k4 (v : Cfg) (x : Int) {r : List (Nat × Value)} (h : FillOk [(0, 1), (1, 1), (2, 1), (3, 1), (4, 1), (5, 1), (6, 1), (7, 1), (8, 1), (9, 1), (10, 1), (11, 1)] (cfgC v).length r) : FillOk [(0, 1), (1, 1), (2, 1), (3, 1), (4, 1), (5, 1), (6, 1), (7, 1), (8, 1), (9, 1), (10, 1), (11, 1)] (cfgC v).length ((4, .int .i64 x) :: r) := ⟨⟨by simp [Value.cells, ], by rw [cfgC_len]; rfl⟩, h⟩
theorem cfgC_p5 (v : Cfg) (x : Int) : (cfgC v).take 5 ++ ([.int .i64 x]) ++ (cfgC v).drop 6 = cfgC { v with early := x } := by
  unfold cfgC
  simp [List.take_append, List.drop_append, rootC_len, List.take_of_length_le, List.drop_eq_nil_of_le]
theorem cfgC_b5 (v : Cfg) (x : Int) (r : List (Nat × Value)) : fill2 [(0, 1), (1, 1), (2, 1), (3, 1), (4, 1), (5, 1), (6, 1), (7, 1), (8, 1), (9, 1), (10, 1), (11, 1)] (cfgC v) ((5, .int .i64 x) :: r) = fill2 [(0, 1), (1, 1), (2, 1), (3, 1), (4, 1), (5, 1), (6, 1), (7, 1), (8, 1), (9, 1), (10, 1), (11, 1)] (cfgC { v with early := x }) r := congrArg (fun q => fill2 [(0, 1), (1, 1), (2, 1), (3, 1), (4, 1), (5, 1), (6, 1), (7, 1), (8, 1), (9, 1), (10, 1), (11, 1)] q r) (cfgC_p5 v x)
theorem cfgC_k5 (v : Cfg) (x : Int) {r : List (Nat × Value)} (h : FillOk [(0, 1), (1, 1), (2, 1), (3, 1), (4, 1), (5, 1), (6, 1), (7, 1), (8, 1), (9, 1), (10, 1), (11, 1)] (cfgC v).length r) : FillOk [(0, 1), (1, 1), (2, 1), (3, 1), (4, 1), (5, 1), (6, 1), (7, 1), (8, 1), (9, 1), (10, 1), (11, 1)] (cfgC v).length ((5, .int .i64 x) :: r) := ⟨⟨by simp [Value.cells, ], by rw [cfgC_len]; rfl⟩, h⟩
theorem cfgC_p6 (v : Cfg) (x : Int) : (cfgC v).take 6 ++ ([.int .i64 x]) ++ (cfgC v).drop 7 = cfgC { v with quota := x } := by
  unfold cfgC
  simp [List.take_append, List.drop_append, rootC_len, List.take_of_length_le, List.drop_eq_nil_of_le]
theorem cfgC_b6 (v : Cfg) (x : Int) (r : List (Nat × Value)) : fill2 [(0, 1), (1, 1), (2, 1), (3, 1), (4, 1), (5, 1), (6, 1), (7, 1), (8, 1), (9, 1), (10, 1), (11, 1)] (cfgC v) ((6, .int .i64 x) :: r) = fill2 [(0, 1), (1, 1), (2, 1), (3, 1), (4, 1), (5, 1), (6, 1), (7, 1), (8, 1), (9, 1), (10, 1), (11, 1)] (cfgC { v with quota := x }) r := congrArg (fun q => fill2 [(0, 1), (1, 1), (2, 1), (3, 1), (4, 1), (5, 1), (6, 1), (7, 1), (8, 1), (9, 1), (10, 1), (11, 1)] q r) (cfgC_p6 v x)
theorem cfgC_k6 (v : Cfg) (x : Int) {r : List (Nat × Value)} (h : FillOk [(0, 1), (1, 1), (2, 1), (3, 1), (4, 1), (5, 1), (6, 1), (7, 1), (8, 1), (9, 1), (10, 1), (11, 1)] (cfgC v).length r) : FillOk [(0, 1), (1, 1), (2, 1), (3, 1), (4, 1), (5, 1), (6, 1), (7, 1), (8, 1), (9, 1), (10, 1), (11, 1)] (cfgC v).length ((6, .int .i64 x) :: r) := ⟨⟨by simp [Value.cells, ], by rw [cfgC_len]; rfl⟩, h⟩
theorem cfgC_p7 (v : Cfg) (x : Int) : (cfgC v).take 7 ++ ([.int .i64 x]) ++ (cfgC v).drop 8 = cfgC { v with peers := x } := by
  unfold cfgC
  simp [List.take_append, List.drop_append, rootC_len, List.take_of_length_le, List.drop_eq_nil_of_le]
theorem cfgC_b7 (v : Cfg) (x : Int) (r : List (Nat × Value)) : fill2 [(0, 1), (1, 1), (2, 1), (3, 1), (4, 1), (5, 1), (6, 1), (7, 1), (8, 1), (9, 1), (10, 1), (11, 1)] (cfgC v) ((7, .int .i64 x) :: r) = fill2 [(0, 1), (1, 1), (2, 1), (3, 1), (4, 1), (5, 1), (6, 1), (7, 1), (8, 1), (9, 1), (10, 1), (11, 1)] (cfgC { v with peers := x }) r := congrArg (fun q => fill2 [(0, 1), (1, 1), (2, 1), (3, 1), (4, 1), (5, 1), (6, 1), (7, 1), (8, 1), (9, 1), (10, 1), (11, 1)] q r) (cfgC_p7 v x)
theorem cfgC_k7 (v : Cfg) (x : Int) {r : List (Nat × Value)} (h : FillOk [(0, 1), (1, 1), (2, 1), (3, 1), (4, 1), (5, 1), (6, 1), (7, 1), (8, 1), (9, 1), (10, 1), (11, 1)] (cfgC v).length r) : FillOk [(0, 1), (1, 1), (2, 1), (3, 1), (4, 1), (5, 1), (6, 1), (7, 1), (8, 1), (9, 1), (10, 1), (11, 1)] (cfgC v).length ((7, .int .i64 x) :: r) := ⟨⟨by simp [Value.cells, ], by rw [cfgC_len]; rfl⟩, h⟩
theorem cfgC_p8 (v : Cfg) (x : Int) : (cfgC v).take 8 ++ ([.int .i64 x]) ++ (cfgC v).drop 9 = cfgC { v with bytes := x } := by
  unfold cfgC
  simp [List.take_append, List.drop_append, rootC_len, List.take_of_length_le, List.drop_eq_nil_of_le]
theorem cfgC_b8 (v : Cfg) (x : Int) (r : List (Nat × Value)) : fill2 [(0, 1), (1, 1), (2, 1), (3, 1), (4, 1), (5, 1), (6, 1), (7, 1), (8, 1), (9, 1), (10, 1), (11, 1)] (cfgC v) ((8, .int .i64 x) :: r) = fill2 [(0, 1), (1, 1), (2, 1), (3, 1), (4, 1), (5, 1), (6, 1), (7, 1), (8, 1), (9, 1), (10, 1), (11, 1)] (cfgC { v with bytes := x }) r := congrArg (fun q => fill2 [(0, 1), (1, 1), (2, 1), (3, 1), (4, 1), (5, 1), (6, 1), (7, 1), (8, 1), (9, 1), (10, 1), (11, 1)] q r) (cfgC_p8 v x)
theorem cfgC_k8 (v : Cfg) (x : Int) {r : List (Nat × Value)} (h : FillOk [(0, 1), (1, 1), (2, 1), (3, 1), (4, 1), (5, 1), (6, 1), (7, 1), (8, 1), (9, 1), (10, 1), (11, 1)] (cfgC v).length r) : FillOk [(0, 1), (1, 1), (2, 1), (3, 1), (4, 1), (5, 1), (6, 1), (7, 1), (8, 1), (9, 1), (10, 1), (11, 1)] (cfgC v).length ((8, .int .i64 x) :: r) := ⟨⟨by simp [Value.cells, ], by rw [cfgC_len]; rfl⟩, h⟩
theorem cfgC_p9 (v : Cfg) (x : Int) : (cfgC v).take 9 ++ ([.int .i64 x]) ++ (cfgC v).drop 10 = cfgC { v with window := x } := by
  unfold cfgC
  simp [List.take_append, List.drop_append, rootC_len, List.take_of_length_le, List.drop_eq_nil_of_le]
theorem cfgC_b9 (v : Cfg) (x : Int) (r : List (Nat × Value)) : fill2 [(0, 1), (1, 1), (2, 1), (3, 1), (4, 1), (5, 1), (6, 1), (7, 1), (8, 1), (9, 1), (10, 1), (11, 1)] (cfgC v) ((9, .int .i64 x) :: r) = fill2 [(0, 1), (1, 1), (2, 1), (3, 1), (4, 1), (5, 1), (6, 1), (7, 1), (8, 1), (9, 1), (10, 1), (11, 1)] (cfgC { v with window := x }) r := congrArg (fun q => fill2 [(0, 1), (1, 1), (2, 1), (3, 1), (4, 1), (5, 1), (6, 1), (7, 1), (8, 1), (9, 1), (10, 1), (11, 1)] q r) (cfgC_p9 v x)
theorem cfgC_k9 (v : Cfg) (x : Int) {r : List (Nat × Value)} (h : FillOk [(0, 1), (1, 1), (2, 1), (3, 1), (4, 1), (5, 1), (6, 1), (7, 1), (8, 1), (9, 1), (10, 1), (11, 1)] (cfgC v).length r) : FillOk [(0, 1), (1, 1), (2, 1), (3, 1), (4, 1), (5, 1), (6, 1), (7, 1), (8, 1), (9, 1), (10, 1), (11, 1)] (cfgC v).length ((9, .int .i64 x) :: r) := ⟨⟨by simp [Value.cells, ], by rw [cfgC_len]; rfl⟩, h⟩
theorem cfgC_p10 (v : Cfg) (x : Int) : (cfgC v).take 10 ++ ([.int .i64 x]) ++ (cfgC v).drop 11 = cfgC { v with ban := x } := by
  unfold cfgC
  simp [List.take_append, List.drop_append, rootC_len, List.take_of_length_le, List.drop_eq_nil_of_le]
theorem cfgC_b10 (v : Cfg) (x : Int) (r : List (Nat × Value)) : fill2 [(0, 1), (1, 1), (2, 1), (3, 1), (4, 1), (5, 1), (6, 1), (7, 1), (8, 1), (9, 1), (10, 1), (11, 1)] (cfgC v) ((10, .int .i64 x) :: r) = fill2 [(0, 1), (1, 1), (2, 1), (3, 1), (4, 1), (5, 1), (6, 1), (7, 1), (8, 1), (9, 1), (10, 1), (11, 1)] (cfgC { v with ban := x }) r := congrArg (fun q => fill2 [(0, 1), (1, 1), (2, 1), (3, 1), (4, 1), (5, 1), (6, 1), (7, 1), (8, 1), (9, 1), (10, 1), (11, 1)] q r) (cfgC_p10 v x)
theorem cfgC_k10 (v : Cfg) (x : Int) {r : List (Nat × Value)} (h : FillOk [(0, 1), (1, 1), (2, 1), (3, 1), (4, 1), (5, 1), (6, 1), (7, 1), (8, 1), (9, 1), (10, 1), (11, 1)] (cfgC v).length r) : FillOk [(0, 1), (1, 1), (2, 1), (3, 1), (4, 1), (5, 1), (6, 1), (7, 1), (8, 1), (9, 1), (10, 1), (11, 1)] (cfgC v).length ((10, .int .i64 x) :: r) := ⟨⟨by simp [Value.cells, ], by rw [cfgC_len]; rfl⟩, h⟩
theorem cfgC_p11 (v : Cfg) (x : Int) : (cfgC v).take 11 ++ ([.int .i64 x]) ++ (cfgC v).drop 12 = cfgC { v with decay := x } := by
  unfold cfgC
  simp [List.take_append, List.drop_append, rootC_len, List.take_of_length_le, List.drop_eq_nil_of_le]
theorem cfgC_b11 (v : Cfg) (x : Int) (r : List (Nat × Value)) : fill2 [(0, 1), (1, 1), (2, 1), (3, 1), (4, 1), (5, 1), (6, 1), (7, 1), (8, 1), (9, 1), (10, 1), (11, 1)] (cfgC v) ((11, .int .i64 x) :: r) = fill2 [(0, 1), (1, 1), (2, 1), (3, 1), (4, 1), (5, 1), (6, 1), (7, 1), (8, 1), (9, 1), (10, 1), (11, 1)] (cfgC { v with decay := x }) r := congrArg (fun q => fill2 [(0, 1), (1, 1), (2, 1), (3, 1), (4, 1), (5, 1), (6, 1), (7, 1), (8, 1), (9, 1), (10, 1), (11, 1)] q r) (cfgC_p11 v x)
theorem cfgC_k11 (v : Cfg) (x : Int) {r : List (Nat × Value)} (h : FillOk [(0, 1), (1, 1), (2, 1), (3, 1), (4, 1), (5, 1), (6, 1), (7, 1), (8, 1), (9, 1), (10, 1), (11, 1)] (cfgC v).length r) : FillOk [(0, 1), (1, 1), (2, 1), (3, 1), (4, 1), (5, 1), (6, 1), (7, 1), (8, 1), (9, 1), (10, 1), (11, 1)] (cfgC v).length ((11, .int .i64 x) :: r) := ⟨⟨by simp [Value.cells, ], by rw [cfgC_len]; rfl⟩, h⟩
theorem open_agg {H : Type} {enc : TypeId × Value → H} {P : Program} {W : World} {t : TypeId} {r : Reach} {b0 : Nat} {v : Value} {d : DataW H} {ps : List MemPlace} {fs : Array Field} {Q : List Value → Prop} (hu : P.underlying t = some (.struct fs)) (hval : Value.okWide P W r b0 t v) (hd : DataW.Trod enc P W 0 (fun _ => true) true t v d ps) (ho : Opens enc P W t Q) : ∃ cs, v = .agg cs ∧ Q cs.toList := by
  have hv : ∃ cs, v = .agg cs := by
    unfold Value.okWide at hval
    rw [hu] at hval
    obtain ⟨cs, h, _⟩ := hval
    exact ⟨cs, h⟩
  obtain ⟨cs, rfl⟩ := hv
  exact ⟨cs, rfl, open_cells ho hd⟩
end Go.SL
