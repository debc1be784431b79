/- The law VotesDo of this seat: it answers true, whatever it is given, and leaves what it is given as it was. -/
import Derived.Test.YtdeemlgkckpedaaGreatRows
import Derived.KernelRfl
import Derived.Test.YtdeemlgkckpedaaGreatK8
set_option linter.unusedVariables false
set_option linter.unusedSimpArgs false
namespace Go.Proofs.YtdeemlgkckpedaaGreat.RVotesDo
open Go.SL Go.RowKit Go.ChangeShapes Go.WideShapes
theorem own : ownKnob Tryz.prog.godebug = none := by kernel_rfl
theorem laid : laidOutB Tryz.prog = true := by kernel_rfl
set_option maxRecDepth 100000 in
theorem lifted (os : Os) (started : os.Started) (H : Type) (enc : TypeId × Value → H) :
    ReturnsInHanded {} Tryz.checked os 3 .any (Rows.votesDoSpec.pre6 enc Tryz.prog Tryz.f3 Rows.votesDoRow.domain false) (Rows.votesDoSpec.post enc Tryz.prog Tryz.f3 false true false false) := by
  refine law_lifted (C := Tryz.checked) (tb := 4) own started (by kernel_rfl) Tryz.func3
    (ChangeSpec.witness6 (enc := enc) (C := Tryz.checked) false ⟨#[], #[.agg #[.slice none 0 0, .int .i64 0, .int .i64 0, .int .i64 0, .int .i64 0, .int .i64 0, .int .i64 0, .int .i64 0, .int .i64 0, .int .i64 0, .int .i64 0, .int .i64 0], .slice none 0 0], []⟩ 8 (by kernel_rfl) (by kernel_rfl) (by kernel_rfl) (by kernel_rfl))
    laid (readsB_spec (by kernel_rfl)) rfl (by kernel_rfl) Tryz.underlying4 (fun ds h => match ds, h with | [d0, d1], _ => rfl) ?_
  intro W base args ds p hval0 hA0
  have hval : ∀ (j : Nat) t v, Tryz.f3.params[j]? = some t → args[j]? = some v → Value.okWide Tryz.prog W .any base t v := hval0
  have hA : DataW.TrodAll enc Tryz.prog W 0 (fun _ => true) true Tryz.f3.params.toList args.toList ds p := hA0
  rw [Tryz.params3] at hA hval
  obtain ⟨v0, vs0, d0, ds0, p0, q0, hargs, rfl, rfl, h0, r0⟩ := trodAll_cons hA
  obtain ⟨v1, vs1, d1, ds1, p1, q1, rfl, rfl, rfl, h1, r1⟩ := trodAll_cons r0
  obtain ⟨rfl, rfl, rfl⟩ := trodAll_nil r1
  obtain rfl : args = #[v0, v1] := by cases args; simp_all
  obtain ⟨cs0, hv0, q0, hcs0, ⟨ys0, hn0, hc0, hm0, hsh0, hq0⟩, hrest0⟩ := open_agg Tryz.underlying24 (hval 0 24 v0 rfl rfl) h0 opens_Cfg
  obtain rfl : cs0 = (cfgC q0).toArray := by apply Array.toList_inj.1; rw [hcs0]; rfl
  subst hv0
  obtain ⟨⟨sa0, sn0, sc0⟩, epoch0, committee0, nodes0, orphans0, early0, quota0, peers0, bytes0, window0, ban0, decay0⟩ := q0
  dsimp only at hn0 hc0 hm0 hsh0 hq0 hrest0
  subst hn0
  obtain ⟨ao1, c1, xs1, hv1, hc1, hcm1, hsh1, hq1⟩ := open_slice Tryz.underlying25 (hval 1 25 v1 rfl rfl) h1 (opens_slice encVAct Tryz.underlying25 (by kernel_rfl) opens_VAct)
  obtain rfl : v1 = _ := by simpa using hv1
  exact VotesDo_calls sa0 sc0 ys0 epoch0 committee0 nodes0 orphans0 early0 quota0 peers0 bytes0 window0 ban0 decay0 ao1 c1 xs1 (Sat.start W) (hsh0.rds 0 rfl) hq0 (hsh1.rds 0 rfl) hq1
theorem proved : Rows.VotesDoSaid :=
  OpenClaim.holds_of_wide 3 Tryz.f3 rfl rfl rfl rfl rfl rfl rfl ⟨rfl, rfl, rfl, rfl, rfl⟩ rfl rfl rfl rfl rfl (by kernel_rfl) Tryz.func3 (by kernel_rfl)
    (of_decide_eq_true (by kernel_rfl)) (by unfold Func.isWrapper; first | (rw [if_pos (by decide +kernel)]; kernel_rfl) | (rw [if_neg (by decide +kernel)]; exact ⟨rfl, rfl⟩))
    (fun os started H enc _ => lifted os started H enc)
end Go.Proofs.YtdeemlgkckpedaaGreat.RVotesDo
