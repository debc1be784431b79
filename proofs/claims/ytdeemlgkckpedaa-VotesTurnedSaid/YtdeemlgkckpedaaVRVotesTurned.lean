/- The law VotesTurned of this seat: it answers true, whatever it is given, and leaves what it is given as it was. -/
import Derived.Test.YtdeemlgkckpedaaRows
import Derived.KernelRfl
import Derived.Test.YtdeemlgkckpedaaV8
set_option linter.unusedVariables false
set_option linter.unusedSimpArgs false
namespace Go.Proofs.Ytdeemlgkckpedaa.RVotesTurned
open Go.SL Go.RowKit Go.ChangeShapes Go.WideShapes
theorem own : ownKnob Try.prog.godebug = none := by kernel_rfl
theorem laid : laidOutB Try.prog = true := by kernel_rfl
set_option maxRecDepth 100000 in
theorem lifted (os : Os) (started : os.Started) (H : Type) (enc : TypeId × Value → H) :
    ReturnsInHanded {} Try.checked os 8 .any (Rows.votesTurnedSpec.pre6 enc Try.prog Try.f8 Rows.votesTurnedRow.domain false) (Rows.votesTurnedSpec.post enc Try.prog Try.f8 false true false false) := by
  refine law_lifted (C := Try.checked) (tb := 4) own started (by kernel_rfl) Try.func8
    (ChangeSpec.witness6 (enc := enc) (C := Try.checked) false ⟨#[], #[.agg #[.slice none 0 0, .int .i64 0, .int .i64 0, .int .i64 0, .int .i64 0, .int .i64 0, .int .i64 0, .int .i64 0, .int .i64 0, .int .i64 0, .int .i64 0, .int .i64 0], .slice none 0 0, .slice none 0 0, .int .i64 0], []⟩ 8 (by kernel_rfl) (by kernel_rfl) (by kernel_rfl) (by kernel_rfl))
    laid (readsB_spec (by kernel_rfl)) rfl (by kernel_rfl) Try.underlying4 (fun ds h => match ds, h with | [d0, d1, d2, d3], _ => rfl) ?_
  intro W base args ds p hval0 hA0
  have hval : ∀ (j : Nat) t v, Try.f8.params[j]? = some t → args[j]? = some v → Value.okWide Try.prog W .any base t v := hval0
  have hA : DataW.TrodAll enc Try.prog W 0 (fun _ => true) true Try.f8.params.toList args.toList ds p := hA0
  rw [Try.params8] at hA hval
  obtain ⟨v0, vs0, d0, ds0, p0, q0, hargs, rfl, rfl, h0, r0⟩ := trodAll_cons hA
  obtain ⟨v1, vs1, d1, ds1, p1, q1, rfl, rfl, rfl, h1, r1⟩ := trodAll_cons r0
  obtain ⟨v2, vs2, d2, ds2, p2, q2, rfl, rfl, rfl, h2, r2⟩ := trodAll_cons r1
  obtain ⟨v3, vs3, d3, ds3, p3, q3, rfl, rfl, rfl, h3, r3⟩ := trodAll_cons r2
  obtain ⟨rfl, rfl, rfl⟩ := trodAll_nil r3
  obtain rfl : args = #[v0, v1, v2, v3] := by cases args; simp_all
  obtain ⟨cs0, hv0, q0, hcs0, ⟨ys0, hn0, hc0, hm0, hsh0, hq0⟩, hrest0⟩ := open_agg Try.underlying65 (hval 0 65 v0 rfl rfl) h0 opens_Cfg
  obtain rfl : cs0 = (cfgC q0).toArray := by apply Array.toList_inj.1; rw [hcs0]; rfl
  subst hv0
  obtain ⟨⟨sa0, sn0, sc0⟩, epoch0, committee0, nodes0, orphans0, early0, quota0, peers0, bytes0, window0, ban0, decay0⟩ := q0
  dsimp only at hn0 hc0 hm0 hsh0 hq0 hrest0
  subst hn0
  obtain ⟨ao1, c1, xs1, hv1, hc1, hcm1, hsh1, hq1⟩ := open_slice Try.underlying66 (hval 1 66 v1 rfl rfl) h1 (opens_slice encVAct Try.underlying66 (by kernel_rfl) opens_VAct)
  obtain rfl : v1 = _ := by simpa using hv1
  obtain ⟨ao2, c2, xs2, hv2, hc2, hcm2, hsh2, hq2⟩ := open_slice Try.underlying66 (hval 2 66 v2 rfl rfl) h2 (opens_slice encVAct Try.underlying66 (by kernel_rfl) opens_VAct)
  obtain rfl : v2 = _ := by simpa using hv2
  obtain ⟨n3, rfl, hm3⟩ := open_num Try.underlying3 (hval 3 3 v3 rfl rfl) h3
  have hn3 := wf_i64 hm3
  exact VotesTurned_calls sa0 sc0 ys0 epoch0 committee0 nodes0 orphans0 early0 quota0 peers0 bytes0 window0 ban0 decay0 ao1 c1 xs1 ao2 c2 xs2 n3 (Sat.start W) (hsh0.rds 0 rfl) hq0 (hsh1.rds 0 rfl) hq1 (hsh2.rds 0 rfl) hq2
theorem proved : Rows.VotesTurnedSaid :=
  OpenClaim.holds_of_wide 8 Try.f8 rfl rfl rfl rfl rfl rfl rfl ⟨rfl, rfl, rfl, rfl, rfl⟩ rfl rfl rfl rfl rfl (by kernel_rfl) Try.func8 (by kernel_rfl)
    (of_decide_eq_true (by kernel_rfl)) (by unfold Func.isWrapper; first | (rw [if_pos (by decide +kernel)]; kernel_rfl) | (rw [if_neg (by decide +kernel)]; exact ⟨rfl, rfl⟩))
    (fun os started H enc _ => lifted os started H enc)
end Go.Proofs.Ytdeemlgkckpedaa.RVotesTurned
