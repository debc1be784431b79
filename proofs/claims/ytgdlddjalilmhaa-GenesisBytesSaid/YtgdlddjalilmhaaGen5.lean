import Derived.Test.YtgdlddjalilmhaaGen4
set_option linter.unusedVariables false
set_option linter.unusedSimpArgs false
namespace Go.SL
open Go.Proofs

theorem opens_Val {H : Type} {enc : TypeId × Value → H} {W : World} : Opens enc Try.prog W 60 (fun cs => ∃ a : Val, cs = encVal.cells a ∧ (I64 a.stake ∧ a.key.length ≤ maxLen)) := fun fuel cs x h => by
  obtain ⟨hl, hf⟩ := opens_field Try.underlying60 h
  have hc : Try.prog.cellsOf 60 = 2 := by kernel_rfl
  rw [hc] at hl
  obtain ⟨n0, h0, w0⟩ := hf 0 0 3 1 _ rfl (by kernel_rfl) (opens_int Try.underlying3)
  obtain ⟨n1, h1, w1⟩ := hf 1 1 9 1 _ rfl (by kernel_rfl) (opens_string Try.underlying9)
  refine ⟨⟨n0, n1⟩, ?_, wf_i64 w0, w1⟩
  have e0 : cs.drop 0 = (cs.drop 0).take 1 ++ cs.drop 1 := seg cs 0 1
  have e1 : cs.drop 1 = (cs.drop 1).take 1 ++ cs.drop 2 := seg cs 1 1
  have eN : cs.drop 2 = [] := List.drop_eq_nil_of_le (by omega)
  have e : cs.drop 0 = [.int .i64 n0] ++ ([.string (B n1)] ++ ([])) := by rw [e0, h0, e1, h1, eN]
  rw [List.drop_zero] at e
  rw [e]
  show _ = valC _
  unfold valC
  simp

theorem opens_Cfg {H : Type} {enc : TypeId × Value → H} {W : World} : Opens enc Try.prog W 24 (fun cs => ∃ a : Cfg, cs = encCfg.cells a ∧ ((∃ ys : List Val, a.vs.n = ys.length ∧ a.vs.n ≤ a.vs.c ∧ a.vs.c ≤ maxLen ∧ Shows W encVal a.vs.a ys ∧ ∀ y ∈ ys, I64 y.stake ∧ y.key.length ≤ maxLen) ∧ I64 a.epoch ∧ I64 a.committee ∧ I64 a.nodes ∧ I64 a.orphans ∧ I64 a.early ∧ I64 a.quota ∧ I64 a.peers ∧ I64 a.bytes ∧ I64 a.window ∧ I64 a.ban ∧ I64 a.decay)) := fun fuel cs x h => by
  obtain ⟨hl, hf⟩ := opens_field Try.underlying24 h
  have hc : Try.prog.cellsOf 24 = 12 := by kernel_rfl
  rw [hc] at hl
  obtain ⟨ao0, c0, ys0, h0, hl0, hm0, hs0, hq0⟩ := hf 0 0 22 1 _ rfl (by kernel_rfl) (opens_slice encVal Try.underlying22 (by kernel_rfl) opens_Val)
  obtain ⟨n1, h1, w1⟩ := hf 1 1 3 1 _ rfl (by kernel_rfl) (opens_int Try.underlying3)
  obtain ⟨n2, h2, w2⟩ := hf 2 2 3 1 _ rfl (by kernel_rfl) (opens_int Try.underlying3)
  obtain ⟨n3, h3, w3⟩ := hf 3 3 3 1 _ rfl (by kernel_rfl) (opens_int Try.underlying3)
  obtain ⟨n4, h4, w4⟩ := hf 4 4 3 1 _ rfl (by kernel_rfl) (opens_int Try.underlying3)
  obtain ⟨n5, h5, w5⟩ := hf 5 5 3 1 _ rfl (by kernel_rfl) (opens_int Try.underlying3)
  obtain ⟨n6, h6, w6⟩ := hf 6 6 3 1 _ rfl (by kernel_rfl) (opens_int Try.underlying3)
  obtain ⟨n7, h7, w7⟩ := hf 7 7 3 1 _ rfl (by kernel_rfl) (opens_int Try.underlying3)
  obtain ⟨n8, h8, w8⟩ := hf 8 8 3 1 _ rfl (by kernel_rfl) (opens_int Try.underlying3)
  obtain ⟨n9, h9, w9⟩ := hf 9 9 3 1 _ rfl (by kernel_rfl) (opens_int Try.underlying3)
  obtain ⟨n10, h10, w10⟩ := hf 10 10 3 1 _ rfl (by kernel_rfl) (opens_int Try.underlying3)
  obtain ⟨n11, h11, w11⟩ := hf 11 11 3 1 _ rfl (by kernel_rfl) (opens_int Try.underlying3)
  refine ⟨⟨⟨ao0, ys0.length, c0⟩, n1, n2, n3, n4, n5, n6, n7, n8, n9, n10, n11⟩, ?_, ⟨ys0, rfl, hl0, hm0, hs0, hq0⟩, wf_i64 w1, wf_i64 w2, wf_i64 w3, wf_i64 w4, wf_i64 w5, wf_i64 w6, wf_i64 w7, wf_i64 w8, wf_i64 w9, wf_i64 w10, wf_i64 w11⟩
  have e0 : cs.drop 0 = (cs.drop 0).take 1 ++ cs.drop 1 := seg cs 0 1
  have e1 : cs.drop 1 = (cs.drop 1).take 1 ++ cs.drop 2 := seg cs 1 1
  have e2 : cs.drop 2 = (cs.drop 2).take 1 ++ cs.drop 3 := seg cs 2 1
  have e3 : cs.drop 3 = (cs.drop 3).take 1 ++ cs.drop 4 := seg cs 3 1
  have e4 : cs.drop 4 = (cs.drop 4).take 1 ++ cs.drop 5 := seg cs 4 1
  have e5 : cs.drop 5 = (cs.drop 5).take 1 ++ cs.drop 6 := seg cs 5 1
  have e6 : cs.drop 6 = (cs.drop 6).take 1 ++ cs.drop 7 := seg cs 6 1
  have e7 : cs.drop 7 = (cs.drop 7).take 1 ++ cs.drop 8 := seg cs 7 1
  have e8 : cs.drop 8 = (cs.drop 8).take 1 ++ cs.drop 9 := seg cs 8 1
  have e9 : cs.drop 9 = (cs.drop 9).take 1 ++ cs.drop 10 := seg cs 9 1
  have e10 : cs.drop 10 = (cs.drop 10).take 1 ++ cs.drop 11 := seg cs 10 1
  have e11 : cs.drop 11 = (cs.drop 11).take 1 ++ cs.drop 12 := seg cs 11 1
  have eN : cs.drop 12 = [] := List.drop_eq_nil_of_le (by omega)
  have e : cs.drop 0 = [.slice ao0 ys0.length c0] ++ ([.int .i64 n1] ++ ([.int .i64 n2] ++ ([.int .i64 n3] ++ ([.int .i64 n4] ++ ([.int .i64 n5] ++ ([.int .i64 n6] ++ ([.int .i64 n7] ++ ([.int .i64 n8] ++ ([.int .i64 n9] ++ ([.int .i64 n10] ++ ([.int .i64 n11] ++ ([])))))))))))) := by rw [e0, h0, e1, h1, e2, h2, e3, h3, e4, h4, e5, h5, e6, h6, e7, h7, e8, h8, e9, h9, e10, h10, e11, h11, eN]
  rw [List.drop_zero] at e
  rw [e]
  show _ = cfgC _
  unfold cfgC
  simp
end Go.SL
