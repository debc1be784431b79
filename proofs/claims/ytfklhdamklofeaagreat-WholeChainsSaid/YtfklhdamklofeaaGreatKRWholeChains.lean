/- The law WholeChains of this seat: it answers true, whatever it is given, and leaves what it is given as it was. -/
import Derived.Test.YtfklhdamklofeaaGreatRows
import Derived.KernelRfl
import Derived.Test.YtfklhdamklofeaaGreatK9
set_option linter.unusedVariables false
set_option linter.unusedSimpArgs false
namespace Go.Proofs.YtfklhdamklofeaaGreat.RWholeChains
open Go.SL Go.RowKit Go.ChangeShapes Go.WideShapes
theorem own : ownKnob Tryz.prog.godebug = none := by kernel_rfl
theorem laid : laidOutB Tryz.prog = true := by kernel_rfl
section
variable {H : Type} {enc : TypeId × Value → H}
/-- as `law_lifted`, for a walk that starts where nothing was drawn yet -/
theorem law_liftedD {C : Checked} {os : Os} {fid : FuncId} {fn : Func} {s : ChangeSpec} {conds : List PathCond} {tb : TypeId} (own : ownKnob C.prog.godebug = none) (started : os.Started) (noInit : C.prog.inits.idxOf? fid = none) (hfn : C.prog.funcs[fid]? = some fn)
    (witness : ∃ (w : World) (tape : Tape) (i : Input), w.os = os ∧ (w.forCall tape i).Shaped C.prog ∧ i.vars = [] ∧ Input.okWide C.prog (w.forCall tape i) .any w.heap.size fid i ∧
      s.pre6 enc C.prog fn conds false (w.forCall tape i).memory i.args ∧ ({} : Assume).holds C.prog (lone (Frame.enter C.prog fid i.args .normal) [] (w.forCall tape i)))
    (hl : laidOutB C.prog = true) (hts : ∀ t ∈ fn.params.toList, C.prog.readableRec t = true ∧ t < C.prog.types.size) (hvars : s.vars = []) (hres : fn.resultTypes = #[tb]) (hu : C.prog.underlying tb = some .bool)
    (hs : ∀ ds : List (DataW H), ds.length = fn.params.toList.length → s.fn H (ds ++ []) = { results := [.lit (.bool true)], args := ds })
    (walk : ∀ (W : World) (base : Nat) (args : Array Value) (ds : List (DataW H)) (p : List MemPlace), (∀ (j : Nat) t v, fn.params[j]? = some t → args[j]? = some v → Value.okWide C.prog W .any base t v) →
      DataW.TrodAll enc C.prog W 0 (fun _ => true) true fn.params.toList args.toList ds p → Calls C.prog fid args W (Ret { W with drawn := 0 } fun v l' => v = .bool true ∧ l' = [Old W []])) :
    ReturnsInHanded {} C os fid .any (s.pre6 enc C.prog fn conds false) (s.post enc C.prog fn false true false false) := by
  refine returnsInHanded_of_change own started noInit hfn witness ?_
  intro W base args ds gs before hval hW _ _
  have hW' := hW
  obtain ⟨p, q, hA, hV, hbf, hfz, hnd⟩ := hW
  refine (walk W base args ds p hval hA).mono fun e W' hq => ?_
  obtain ⟨v, l', rfl, ⟨rfl, rfl⟩, st⟩ := hq
  have hb : Below W.heap.size W W' := by
    have h : Below W.heap.size { W with drawn := 0 } W' := Sat.below st
    obtain ⟨h1, h2, h3, h4, h5⟩ := h
    exact ⟨h1, h2, h3, h4, h5⟩
  refine ⟨_, rfl, ?_⟩
  rw [hvars] at hV
  obtain ⟨rfl, rfl⟩ := trodVars_none hV
  have hlt : ∀ x ∈ p, x.block < W.heap.size := hA.lt
  have hlen := (trodAll_length hA).2
  refine ⟨ds, [], before, [], p, [], hW', ?_, ?_, ?_, ?_, fun h => by cases h⟩
  · rw [hs ds hlen, hres]
    exact trodAll_cons_mk (shut_bool hu _) trodAll_mk0
  · rw [hs ds hlen]
    exact stays_all hl hb hts hA hlt (fun x hx => by simpa using hlt x hx)
  · rw [hs ds hlen, hvars]
    trivial
  · exact hb.frame _
end
theorem sat_zero (W : World) : Sat { W with drawn := 0 } W [Old W []] :=
  ⟨rfl, rfl, rfl, ⟨Nat.le_refl _, Nat.zero_le _⟩, _, fun k o hk => hk, fun k => W.heap[k]?, fun _ => none, disj_none _, (join_none _).symm, by simp [Old], fun _ => rfl⟩
theorem opens_Val {H : Type} {enc : TypeId × Value → H} {W : World} : Opens enc Tryz.prog W 64 (fun cs => ∃ a : Val, cs = encVal.cells a ∧ (I64 a.stake ∧ a.key.length ≤ maxLen)) := fun fuel cs x h => by
  obtain ⟨hl, hf⟩ := opens_field Tryz.underlying64 h
  have hc : Tryz.prog.cellsOf 64 = 2 := by kernel_rfl
  rw [hc] at hl
  obtain ⟨n0, h0, w0⟩ := hf 0 0 3 1 _ rfl (by kernel_rfl) (opens_int Tryz.underlying3)
  obtain ⟨n1, h1, w1⟩ := hf 1 1 9 1 _ rfl (by kernel_rfl) (opens_string Tryz.underlying9)
  refine ⟨⟨n0, n1⟩, ?_, wf_i64 w0, w1⟩
  have e0 : cs.drop 0 = (cs.drop 0).take 1 ++ cs.drop 1 := seg cs 0 1
  have e1 : cs.drop 1 = (cs.drop 1).take 1 ++ cs.drop 2 := seg cs 1 1
  have eN : cs.drop 2 = [] := List.drop_eq_nil_of_le (by omega)
  have e : cs.drop 0 = [.int .i64 n0] ++ ([.string (B n1)] ++ ([])) := by rw [e0, h0, e1, h1, eN]
  rw [List.drop_zero] at e
  rw [e]
  show _ = valC _
  unfold valC
  simp
theorem opens_Cfg {H : Type} {enc : TypeId × Value → H} {W : World} : Opens enc Tryz.prog W 24 (fun cs => ∃ a : Cfg, cs = encCfg.cells a ∧ ((∃ ys : List Val, a.vs.n = ys.length ∧ a.vs.n ≤ a.vs.c ∧ a.vs.c ≤ maxLen ∧ Shows W encVal a.vs.a ys ∧ ∀ y ∈ ys, I64 y.stake ∧ y.key.length ≤ maxLen) ∧ I64 a.epoch ∧ I64 a.committee ∧ I64 a.nodes ∧ I64 a.orphans ∧ I64 a.early ∧ I64 a.quota ∧ I64 a.peers ∧ I64 a.bytes ∧ I64 a.window ∧ I64 a.ban ∧ I64 a.decay)) := fun fuel cs x h => by
  obtain ⟨hl, hf⟩ := opens_field Tryz.underlying24 h
  have hc : Tryz.prog.cellsOf 24 = 12 := by kernel_rfl
  rw [hc] at hl
  obtain ⟨ao0, c0, ys0, h0, hl0, hm0, hs0, hq0⟩ := hf 0 0 22 1 _ rfl (by kernel_rfl) (opens_slice encVal Tryz.underlying22 (by kernel_rfl) opens_Val)
  obtain ⟨n1, h1, w1⟩ := hf 1 1 3 1 _ rfl (by kernel_rfl) (opens_int Tryz.underlying3)
  obtain ⟨n2, h2, w2⟩ := hf 2 2 3 1 _ rfl (by kernel_rfl) (opens_int Tryz.underlying3)
  obtain ⟨n3, h3, w3⟩ := hf 3 3 3 1 _ rfl (by kernel_rfl) (opens_int Tryz.underlying3)
  obtain ⟨n4, h4, w4⟩ := hf 4 4 3 1 _ rfl (by kernel_rfl) (opens_int Tryz.underlying3)
  obtain ⟨n5, h5, w5⟩ := hf 5 5 3 1 _ rfl (by kernel_rfl) (opens_int Tryz.underlying3)
  obtain ⟨n6, h6, w6⟩ := hf 6 6 3 1 _ rfl (by kernel_rfl) (opens_int Tryz.underlying3)
  obtain ⟨n7, h7, w7⟩ := hf 7 7 3 1 _ rfl (by kernel_rfl) (opens_int Tryz.underlying3)
  obtain ⟨n8, h8, w8⟩ := hf 8 8 3 1 _ rfl (by kernel_rfl) (opens_int Tryz.underlying3)
  obtain ⟨n9, h9, w9⟩ := hf 9 9 3 1 _ rfl (by kernel_rfl) (opens_int Tryz.underlying3)
  obtain ⟨n10, h10, w10⟩ := hf 10 10 3 1 _ rfl (by kernel_rfl) (opens_int Tryz.underlying3)
  obtain ⟨n11, h11, w11⟩ := hf 11 11 3 1 _ rfl (by kernel_rfl) (opens_int Tryz.underlying3)
  refine ⟨⟨⟨ao0, ys0.length, c0⟩, n1, n2, n3, n4, n5, n6, n7, n8, n9, n10, n11⟩, ?_, ⟨ys0, rfl, hl0, hm0, hs0, hq0⟩, wf_i64 w1, wf_i64 w2, wf_i64 w3, wf_i64 w4, wf_i64 w5, wf_i64 w6, wf_i64 w7, wf_i64 w8, wf_i64 w9, wf_i64 w10, wf_i64 w11⟩
  have e0 : cs.drop 0 = (cs.drop 0).take 1 ++ cs.drop 1 := seg cs 0 1
  have e1 : cs.drop 1 = (cs.drop 1).take 1 ++ cs.drop 2 := seg cs 1 1
  have e2 : cs.drop 2 = (cs.drop 2).take 1 ++ cs.drop 3 := seg cs 2 1
  have e3 : cs.drop 3 = (cs.drop 3).take 1 ++ cs.drop 4 := seg cs 3 1
  have e4 : cs.drop 4 = (cs.drop 4).take 1 ++ cs.drop 5 := seg cs 4 1
  have e5 : cs.drop 5 = (cs.drop 5).take 1 ++ cs.drop 6 := seg cs 5 1
  have e6 : cs.drop 6 = (cs.drop 6).take 1 ++ cs.drop 7 := seg cs 6 1
  have e7 : cs.drop 7 = (cs.drop 7).take 1 ++ cs.drop 8 := seg cs 7 1
  have e8 : cs.drop 8 = (cs.drop 8).take 1 ++ cs.drop 9 := seg cs 8 1
  have e9 : cs.drop 9 = (cs.drop 9).take 1 ++ cs.drop 10 := seg cs 9 1
  have e10 : cs.drop 10 = (cs.drop 10).take 1 ++ cs.drop 11 := seg cs 10 1
  have e11 : cs.drop 11 = (cs.drop 11).take 1 ++ cs.drop 12 := seg cs 11 1
  have eN : cs.drop 12 = [] := List.drop_eq_nil_of_le (by omega)
  have e : cs.drop 0 = [.slice ao0 ys0.length c0] ++ ([.int .i64 n1] ++ ([.int .i64 n2] ++ ([.int .i64 n3] ++ ([.int .i64 n4] ++ ([.int .i64 n5] ++ ([.int .i64 n6] ++ ([.int .i64 n7] ++ ([.int .i64 n8] ++ ([.int .i64 n9] ++ ([.int .i64 n10] ++ ([.int .i64 n11] ++ ([])))))))))))) := by rw [e0, h0, e1, h1, e2, h2, e3, h3, e4, h4, e5, h5, e6, h6, e7, h7, e8, h8, e9, h9, e10, h10, e11, h11, eN]
  rw [List.drop_zero] at e
  rw [e]
  show _ = cfgC _
  unfold cfgC
  simp
set_option maxRecDepth 100000 in
theorem lifted (os : Os) (started : os.Started) (H : Type) (enc : TypeId × Value → H) :
    ReturnsInHanded {} Tryz.checked os 3 .any (Rows.wholeChainsSpec.pre6 enc Tryz.prog Tryz.f3 Rows.wholeChainsRow.domain false) (Rows.wholeChainsSpec.post enc Tryz.prog Tryz.f3 false true false false) := by
  refine law_liftedD (C := Tryz.checked) (tb := 4) own started (by kernel_rfl) Tryz.func3
    (ChangeSpec.witness6 (enc := enc) (C := Tryz.checked) false ⟨#[], #[.agg #[.slice none 0 0, .int .i64 0, .int .i64 0, .int .i64 0, .int .i64 0, .int .i64 0, .int .i64 0, .int .i64 0, .int .i64 0, .int .i64 0, .int .i64 0, .int .i64 0], .int .i64 0, .int .u64 0], []⟩ 8 (by kernel_rfl) (by kernel_rfl) (by kernel_rfl) (by kernel_rfl))
    laid (readsB_spec (by kernel_rfl)) rfl (by kernel_rfl) Tryz.underlying4 (fun ds h => match ds, h with | [d0, d1, d2], _ => rfl) ?_
  intro W base args ds p hval0 hA0
  have hval : ∀ (j : Nat) t v, Tryz.f3.params[j]? = some t → args[j]? = some v → Value.okWide Tryz.prog W .any base t v := hval0
  have hA : DataW.TrodAll enc Tryz.prog W 0 (fun _ => true) true Tryz.f3.params.toList args.toList ds p := hA0
  rw [Tryz.params3] at hA hval
  obtain ⟨v0, vs0, d0, ds0, p0, q0, hargs, rfl, rfl, h0, r0⟩ := trodAll_cons hA
  obtain ⟨v1, vs1, d1, ds1, p1, q1, rfl, rfl, rfl, h1, r1⟩ := trodAll_cons r0
  obtain ⟨v2, vs2, d2, ds2, p2, q2, rfl, rfl, rfl, h2, r2⟩ := trodAll_cons r1
  obtain ⟨rfl, rfl, rfl⟩ := trodAll_nil r2
  obtain rfl : args = #[v0, v1, v2] := by cases args; simp_all
  obtain ⟨cs0, hv0, q0, hcs0, ⟨ys0, hn0, hc0, hm0, hsh0, hq0⟩, hrest0⟩ := open_agg Tryz.underlying24 (hval 0 24 v0 rfl rfl) h0 opens_Cfg
  obtain rfl : cs0 = (cfgC q0).toArray := by apply Array.toList_inj.1; rw [hcs0]; rfl
  subst hv0
  obtain ⟨⟨sa0, sn0, sc0⟩, epoch0, committee0, nodes0, orphans0, early0, quota0, peers0, bytes0, window0, ban0, decay0⟩ := q0
  dsimp only at hn0 hc0 hm0 hsh0 hq0 hrest0
  subst hn0
  obtain ⟨n1, rfl, hm1⟩ := open_num Tryz.underlying3 (hval 1 3 v1 rfl rfl) h1
  have hn1 := wf_i64 hm1
  obtain ⟨m2, rfl, hm2⟩ := open_num Tryz.underlying25 (hval 2 25 v2 rfl rfl) h2
  obtain ⟨n2, rfl, hn2⟩ := wf_u64 hm2
  exact WholeChains_calls sa0 sc0 ys0 epoch0 committee0 nodes0 orphans0 early0 quota0 peers0 bytes0 window0 ban0 decay0 n1 n2 (sat_zero W) rfl (Shows.rds (w0 := { W with drawn := 0 }) hsh0 0 rfl) hq0 hn2
theorem proved : Rows.WholeChainsSaid :=
  OpenClaim.holds_of_wide 3 Tryz.f3 rfl rfl rfl rfl rfl rfl rfl ⟨rfl, rfl, rfl, rfl, rfl⟩ rfl rfl rfl rfl rfl (by kernel_rfl) Tryz.func3 (by kernel_rfl)
    (of_decide_eq_true (by kernel_rfl)) (by unfold Func.isWrapper; first | (rw [if_pos (by decide +kernel)]; kernel_rfl) | (rw [if_neg (by decide +kernel)]; exact ⟨rfl, rfl⟩))
    (fun os started H enc _ => lifted os started H enc)
end Go.Proofs.YtfklhdamklofeaaGreat.RWholeChains
