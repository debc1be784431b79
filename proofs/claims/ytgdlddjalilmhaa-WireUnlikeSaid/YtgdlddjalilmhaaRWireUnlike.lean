/- The law WireUnlike of this seat: it answers true, whatever it is given, and leaves what it is given as it was. -/
import Derived.Test.YtgdlddjalilmhaaRows
import Derived.Test.YtgdlddjalilmhaaWire4
import Derived.KernelRfl
set_option linter.unusedVariables false
set_option linter.unusedSimpArgs false
namespace Go.Proofs.Ytgdlddjalilmhaa.RWireUnlike
open Go.SL Go.RowKit Go.ChangeShapes Go.WideShapes
theorem own : ownKnob Try.prog.godebug = none := by kernel_rfl
theorem laid : laidOutB Try.prog = true := by kernel_rfl
set_option maxRecDepth 100000 in
theorem lifted (os : Os) (started : os.Started) (H : Type) (enc : TypeId × Value → H) :
    ReturnsInHanded {} Try.checked os 10 .any (Rows.wireUnlikeSpec.pre6 enc Try.prog Try.f10 Rows.wireUnlikeRow.domain false) (Rows.wireUnlikeSpec.post enc Try.prog Try.f10 false true false false) := by
  refine law_lifted (C := Try.checked) (tb := 4) own started (by kernel_rfl) Try.func10
    (ChangeSpec.witness6 (enc := enc) (C := Try.checked) false ⟨#[], #[.agg #[.int .i64 0, .int .i64 0, .int .u8 0, .int .u8 0, .int .u8 0, .int .u8 0, .int .u8 0, .int .u8 0, .int .u8 0, .int .u8 0, .int .u8 0, .int .u8 0, .int .u8 0, .int .u8 0, .int .u8 0, .int .u8 0, .int .u8 0, .int .u8 0, .int .u8 0, .int .u8 0, .int .u8 0, .int .u8 0, .int .u8 0, .int .u8 0, .int .u8 0, .int .u8 0, .int .u8 0, .int .u8 0, .int .u8 0, .int .u8 0, .int .u8 0, .int .u8 0, .int .u8 0, .int .u8 0, .int .i64 0, .int .u64 0, .slice none 0 0, .int .u8 0, .int .u8 0, .int .u8 0, .int .u8 0, .int .u8 0, .int .u8 0, .int .u8 0, .int .u8 0, .int .u8 0, .int .u8 0, .int .u8 0, .int .u8 0, .int .u8 0, .int .u8 0, .int .u8 0, .int .u8 0], .agg #[.int .i64 0, .int .i64 0, .int .u8 0, .int .u8 0, .int .u8 0, .int .u8 0, .int .u8 0, .int .u8 0, .int .u8 0, .int .u8 0, .int .u8 0, .int .u8 0, .int .u8 0, .int .u8 0, .int .u8 0, .int .u8 0, .int .u8 0, .int .u8 0, .int .u8 0, .int .u8 0, .int .u8 0, .int .u8 0, .int .u8 0, .int .u8 0, .int .u8 0, .int .u8 0, .int .u8 0, .int .u8 0, .int .u8 0, .int .u8 0, .int .u8 0, .int .u8 0, .int .u8 0, .int .u8 0, .int .i64 0, .int .u64 0, .slice none 0 0, .int .u8 0, .int .u8 0, .int .u8 0, .int .u8 0, .int .u8 0, .int .u8 0, .int .u8 0, .int .u8 0, .int .u8 0, .int .u8 0, .int .u8 0, .int .u8 0, .int .u8 0, .int .u8 0, .int .u8 0, .int .u8 0]], []⟩ 8 (by kernel_rfl) (by kernel_rfl) (by kernel_rfl) (by kernel_rfl))
    laid (readsB_spec (by kernel_rfl)) rfl (by kernel_rfl) Try.underlying4 (fun ds h => match ds, h with | [d0, d1], _ => rfl) ?_
  intro W base args ds p hval0 hA0
  have hval : ∀ (j : Nat) t v, Try.f10.params[j]? = some t → args[j]? = some v → Value.okWide Try.prog W .any base t v := hval0
  have hA : DataW.TrodAll enc Try.prog W 0 (fun _ => true) true Try.f10.params.toList args.toList ds p := hA0
  rw [Try.params10] at hA hval
  obtain ⟨v0, vs0, d0, ds0, p0, q0, hargs, rfl, rfl, h0, r0⟩ := trodAll_cons hA
  obtain ⟨v1, vs1, d1, ds1, p1, q1, rfl, rfl, rfl, h1, r1⟩ := trodAll_cons r0
  obtain ⟨rfl, rfl, rfl⟩ := trodAll_nil r1
  obtain rfl : args = #[v0, v1] := by cases args; simp_all
  obtain ⟨cs0, hv0, q0, hcs0, ⟨ys0, hn0, hc0, hm0, hsh0, hq0⟩, hk0, hsl0, hmb0, hbd0⟩ := open_agg Try.underlying45 (hval 0 45 v0 rfl rfl) h0 opens_Msg
  obtain rfl : cs0 = (msgC q0).toArray := by apply Array.toList_inj.1; rw [hcs0]; rfl
  subst hv0
  obtain ⟨k0, sl0, tg0, mb0, bd0, ⟨sa0, sn0, sc0⟩, tag0⟩ := q0
  dsimp only at hn0 hc0 hm0 hsh0 hq0 hbd0
  subst hn0
  obtain ⟨cs1, hv1, q1, hcs1, ⟨ys1, hn1, hc1, hm1, hsh1, hq1⟩, hk1, hsl1, hmb1, hbd1⟩ := open_agg Try.underlying45 (hval 1 45 v1 rfl rfl) h1 opens_Msg
  obtain rfl : cs1 = (msgC q1).toArray := by apply Array.toList_inj.1; rw [hcs1]; rfl
  subst hv1
  obtain ⟨k1, sl1, tg1, mb1, bd1, ⟨sa1, sn1, sc1⟩, tag1⟩ := q1
  dsimp only at hn1 hc1 hm1 hsh1 hq1 hbd1
  subst hn1
  exact WireUnlike_calls k0 sl0 tg0 mb0 bd0 sa0 sc0 ys0 tag0 k1 sl1 tg1 mb1 bd1 sa1 sc1 ys1 tag1 (Sat.start W) (hsh0.rds 0 rfl) hbd0 (hsh1.rds 0 rfl) hbd1
theorem proved : Rows.WireUnlikeSaid :=
  OpenClaim.holds_of_wide 10 Try.f10 rfl rfl rfl rfl rfl rfl rfl ⟨rfl, rfl, rfl, rfl, rfl⟩ rfl rfl rfl rfl rfl (by kernel_rfl) Try.func10 (by kernel_rfl)
    (of_decide_eq_true (by kernel_rfl)) (by unfold Func.isWrapper; first | (rw [if_pos (by decide +kernel)]; kernel_rfl) | (rw [if_neg (by decide +kernel)]; exact ⟨rfl, rfl⟩))
    (fun os started H enc _ => lifted os started H enc)
end Go.Proofs.Ytgdlddjalilmhaa.RWireUnlike
