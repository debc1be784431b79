/- The law VotesUnknown of this seat: it answers true, whatever it is given, and leaves what it is given as it was. -/
import Derived.Test.YtdeemlgkckpedaaRows
import Derived.KernelRfl
import Derived.Test.YtdeemlgkckpedaaU8
set_option linter.unusedVariables false
set_option linter.unusedSimpArgs false
namespace Go.Proofs.Ytdeemlgkckpedaa.RVotesUnknown
open Go.SL Go.RowKit Go.ChangeShapes Go.WideShapes
theorem own : ownKnob Try.prog.godebug = none := by kernel_rfl
theorem laid : laidOutB Try.prog = true := by kernel_rfl
set_option maxRecDepth 100000 in
theorem lifted (os : Os) (started : os.Started) (H : Type) (enc : TypeId × Value → H) :
    ReturnsInHanded {} Try.checked os 11 .any (Rows.votesUnknownSpec.pre6 enc Try.prog Try.f11 Rows.votesUnknownRow.domain false) (Rows.votesUnknownSpec.post enc Try.prog Try.f11 false true false false) := by
  refine law_lifted (C := Try.checked) (tb := 4) own started (by kernel_rfl) Try.func11
    (ChangeSpec.witness6 (enc := enc) (C := Try.checked) false ⟨#[], #[.agg #[.slice none 0 0, .int .i64 0, .int .i64 0, .int .i64 0, .int .i64 0, .int .i64 0, .int .i64 0, .int .i64 0, .int .i64 0, .int .i64 0, .int .i64 0, .int .i64 0], .slice none 0 0, .agg #[.int .u8 0, .int .u8 0, .int .u8 0, .int .u8 0, .int .u8 0, .int .u8 0, .int .u8 0, .int .u8 0, .int .u8 0, .int .u8 0, .int .u8 0, .int .u8 0, .int .u8 0, .int .u8 0, .int .u8 0, .int .u8 0, .int .u8 0, .int .u8 0, .int .u8 0, .int .u8 0, .int .u8 0, .int .u8 0, .int .u8 0, .int .u8 0, .int .u8 0, .int .u8 0, .int .u8 0, .int .u8 0, .int .u8 0, .int .u8 0, .int .u8 0, .int .u8 0]], []⟩ 8 (by kernel_rfl) (by kernel_rfl) (by kernel_rfl) (by kernel_rfl))
    laid (readsB_spec (by kernel_rfl)) rfl (by kernel_rfl) Try.underlying4 (fun ds h => match ds, h with | [d0, d1, d2], _ => rfl) ?_
  intro W base args ds p hval0 hA0
  have hval : ∀ (j : Nat) t v, Try.f11.params[j]? = some t → args[j]? = some v → Value.okWide Try.prog W .any base t v := hval0
  have hA : DataW.TrodAll enc Try.prog W 0 (fun _ => true) true Try.f11.params.toList args.toList ds p := hA0
  rw [Try.params11] at hA hval
  obtain ⟨v0, vs0, d0, ds0, p0, q0, hargs, rfl, rfl, h0, r0⟩ := trodAll_cons hA
  obtain ⟨v1, vs1, d1, ds1, p1, q1, rfl, rfl, rfl, h1, r1⟩ := trodAll_cons r0
  obtain ⟨v2, vs2, d2, ds2, p2, q2, rfl, rfl, rfl, h2, r2⟩ := trodAll_cons r1
  obtain ⟨rfl, rfl, rfl⟩ := trodAll_nil r2
  obtain rfl : args = #[v0, v1, v2] := by cases args; simp_all
  obtain ⟨cs0, hv0, q0, hcs0, ⟨ys0, hn0, hc0, hm0, hsh0, hq0⟩, hrest0⟩ := open_agg Try.underlying65 (hval 0 65 v0 rfl rfl) h0 opens_Cfg
  obtain rfl : cs0 = (cfgC q0).toArray := by apply Array.toList_inj.1; rw [hcs0]; rfl
  subst hv0
  obtain ⟨⟨sa0, sn0, sc0⟩, epoch0, committee0, nodes0, orphans0, early0, quota0, peers0, bytes0, window0, ban0, decay0⟩ := q0
  dsimp only at hn0 hc0 hm0 hsh0 hq0 hrest0
  subst hn0
  obtain ⟨ao1, c1, xs1, hv1, hc1, hcm1, hsh1, hq1⟩ := open_slice Try.underlying66 (hval 1 66 v1 rfl rfl) h1 (opens_slice encVAct Try.underlying66 (by kernel_rfl) opens_VAct)
  obtain rfl : v1 = _ := by simpa using hv1
  obtain ⟨rr2, rfl⟩ := open_root rB_24 (hval 2 24 v2 rfl rfl) h2
  exact VotesUnknown_calls sa0 sc0 ys0 epoch0 committee0 nodes0 orphans0 early0 quota0 peers0 bytes0 window0 ban0 decay0 ao1 c1 xs1 rr2 (Sat.start W) (hsh0.rds 0 rfl) hq0 (hsh1.rds 0 rfl) hq1
theorem proved : Rows.VotesUnknownSaid :=
  OpenClaim.holds_of_wide 11 Try.f11 rfl rfl rfl rfl rfl rfl rfl ⟨rfl, rfl, rfl, rfl, rfl⟩ rfl rfl rfl rfl rfl (by kernel_rfl) Try.func11 (by kernel_rfl)
    (of_decide_eq_true (by kernel_rfl)) (by unfold Func.isWrapper; first | (rw [if_pos (by decide +kernel)]; kernel_rfl) | (rw [if_neg (by decide +kernel)]; exact ⟨rfl, rfl⟩))
    (fun os started H enc _ => lifted os started H enc)
end Go.Proofs.Ytdeemlgkckpedaa.RVotesUnknown
