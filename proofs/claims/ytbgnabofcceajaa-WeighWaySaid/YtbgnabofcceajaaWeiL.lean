import Derived.Test.YtbgnabofcceajaaWei7
import Derived.Test.YtbgnabofcceajaaWeiR3
import Derived.Test.YtbgnabofcceajaaWeiR5
import Derived.Test.YtbgnabofcceajaaMWei3
set_option linter.unusedVariables false
set_option linter.unusedSimpArgs false
namespace Go.SL
open Go.Proofs

theorem opens_WAct {H : Type} {enc : TypeId × Value → H} {W : World} : Opens enc Try.prog W 69 (fun cs => ∃ a : WAct, cs = encWAct.cells a ∧ (I64 a.kind ∧ I64 a.root ∧ I64 a.parent ∧ I64 a.slot ∧ I64 a.n ∧ I64 a.more)) := fun fuel cs x h => by
  obtain ⟨hl, hf⟩ := opens_field Try.underlying69 h
  have hc : Try.prog.cellsOf 69 = 6 := by kernel_rfl
  rw [hc] at hl
  obtain ⟨n0, h0, w0⟩ := hf 0 0 3 1 _ rfl (by kernel_rfl) (opens_int Try.underlying3)
  obtain ⟨n1, h1, w1⟩ := hf 1 1 3 1 _ rfl (by kernel_rfl) (opens_int Try.underlying3)
  obtain ⟨n2, h2, w2⟩ := hf 2 2 3 1 _ rfl (by kernel_rfl) (opens_int Try.underlying3)
  obtain ⟨n3, h3, w3⟩ := hf 3 3 3 1 _ rfl (by kernel_rfl) (opens_int Try.underlying3)
  obtain ⟨n4, h4, w4⟩ := hf 4 4 3 1 _ rfl (by kernel_rfl) (opens_int Try.underlying3)
  obtain ⟨n5, h5, w5⟩ := hf 5 5 3 1 _ rfl (by kernel_rfl) (opens_int Try.underlying3)
  refine ⟨⟨n0, n1, n2, n3, n4, n5⟩, ?_, wf_i64 w0, wf_i64 w1, wf_i64 w2, wf_i64 w3, wf_i64 w4, wf_i64 w5⟩
  have e0 : cs.drop 0 = (cs.drop 0).take 1 ++ cs.drop 1 := seg cs 0 1
  have e1 : cs.drop 1 = (cs.drop 1).take 1 ++ cs.drop 2 := seg cs 1 1
  have e2 : cs.drop 2 = (cs.drop 2).take 1 ++ cs.drop 3 := seg cs 2 1
  have e3 : cs.drop 3 = (cs.drop 3).take 1 ++ cs.drop 4 := seg cs 3 1
  have e4 : cs.drop 4 = (cs.drop 4).take 1 ++ cs.drop 5 := seg cs 4 1
  have e5 : cs.drop 5 = (cs.drop 5).take 1 ++ cs.drop 6 := seg cs 5 1
  have eN : cs.drop 6 = [] := List.drop_eq_nil_of_le (by omega)
  have e : cs.drop 0 = [.int .i64 n0] ++ ([.int .i64 n1] ++ ([.int .i64 n2] ++ ([.int .i64 n3] ++ ([.int .i64 n4] ++ ([.int .i64 n5] ++ ([])))))) := by rw [e0, h0, e1, h1, e2, h2, e3, h3, e4, h4, e5, h5, eN]
  rw [List.drop_zero] at e
  rw [e]
  show _ = wActC _
  unfold wActC
  simp

set_option maxRecDepth 100000 in
set_option maxHeartbeats 1000000 in
theorem begun_calls {w0 w : World} {l : List HProp}  (hs : Sat w0 w (l))  :
    Calls Try.prog 40 #[] w (Ret w0 fun v l' => ∃ pt pw pr pm, v = .agg #[.pointer (some ⟨pt, 0, none⟩), .pointer (some ⟨pw, 0, none⟩), .pointer (some ⟨pm, 0, none⟩)] ∧ l' = TreeObj pt t0W :: WObj pw pt t0W.nodes s0W.2 :: RTreeObj pr t0W :: RWObj pm pr s0W.2 :: l) := by
  refine calls_enter Try.func40 rfl rfl rfl hs ?_
  refine cd_sr ?_   -- 0
  refine ol_i (wn_none rfl) (os_alloc zB_66 rfl) rfl ?_; rintro _ _ ⟨bx1, rfl, rfl⟩
  refine ol_nil_then ?_
  refine cd_sr ?_   -- 1
  refine ol_i (wn_none rfl) (os_call cb_20 rfl (fun w s => Name_calls (n := 0)  s )) rfl ?_; rintro _ l ⟨rfl, rfl⟩
  refine ol_i (wn_none rfl) (os_call cb_21 rfl (fun w s => TNew_calls _ _ _ s)) rfl ?_; rintro _ l2 (⟨rfl, hl2, hbad1⟩ | ⟨p1, rfl, hok1, rfl⟩)
  · exact absurd hbad1 (by omega)
  · have hob1 := hok1
    refine ol_q (wn_none rfl) (op_move (v := .tuple _) rfl) rfl ?_
    refine ol_q (wn_none rfl) (op_extract (v := .pointer _) rfl rfl) rfl ?_
    refine ol_q (wn_none rfl) (op_extract (v := .int _ _) rfl rfl) rfl ?_
    refine ol_q (wn_none rfl) (op_assign (v := .pointer _) rfl) rfl ?_
    refine ol_q (wn_none rfl) (op_assign (v := .int _ _) rfl) rfl ?_
    refine ol_nil_then ?_
    refine cd_sr ?_   -- 2
    refine ol_i (wn_none rfl) (os_call cb_20 rfl (fun w s => Name_calls (n := 0)  s )) rfl ?_; rintro _ l ⟨rfl, rfl⟩
    refine ol_i (wn_none rfl) (os_call cb_30 rfl (fun w s => RTNew_calls _ _ _ s)) rfl ?_; rintro _ l2 (⟨rfl, hl2, hbad2⟩ | ⟨p2, rfl, hok2, rfl⟩)
    · exact absurd hbad2 (by omega)
    · have hob2 := hok2
      refine ol_q (wn_none rfl) (op_move (v := .tuple _) rfl) rfl ?_
      refine ol_q (wn_none rfl) (op_extract (v := .pointer _) rfl rfl) rfl ?_
      refine ol_q (wn_none rfl) (op_extract (v := .bool _) rfl rfl) rfl ?_
      refine ol_q (wn_none rfl) (op_assign (v := .pointer _) rfl) rfl ?_
      refine ol_q (wn_none rfl) (op_assign (v := .bool _) rfl) rfl ?_
      refine ol_nil_then ?_
      refine cd_sr ?_   -- 3
      refine ol_q (wn_none rfl) (op_move (v := .pointer _) rfl) rfl ?_
      refine ol_q (wn_none rfl) (op_move (v := .pointer _) rfl) rfl ?_
      refine ol_pull1 ?_
      refine ol_i (wn_none rfl) (os_call cb_35 rfl (fun w s => WNew_calls _ _  s )) rfl ?_; rintro _ _ ⟨pw3, rfl, rfl⟩
      refine ol_q (wn_none rfl) (op_move (v := .pointer _) rfl) rfl ?_
      refine ol_pull2 ?_
      refine ol_i (wn_none rfl) (os_call cb_57 rfl (fun w s => RWNew_calls _ _  s )) rfl ?_; rintro _ _ ⟨pm4, rfl, rfl⟩
      refine ol_q (wn_none rfl) (op_build (L := [_, _, _]) (vs := [(0, .pointer _), (1, .pointer _), (2, .pointer _)]) bB_66 rfl ⟨⟨rfl, rfl⟩, ⟨rfl, rfl⟩, ⟨rfl, rfl⟩, trivial⟩ rfl) rfl ?_
      refine ol_pull4 ?_
      refine ol_iN (wn_none rfl) (os_storea (L' := [_, _, _]) ag_66 rfl rfl rfl (by simp [Value.oneCell']) rfl (Free.zero _) rfl) ?_; rintro _ _ ⟨rfl, rfl⟩
      refine ol_nil_then ?_
      refine cd_ret ?_
      exact px_rv1 rfl (rv_cella 0 ag_66 rfl rfl (by rfl) (by simp)) (l' := TreeObj p1 t0W :: WObj pw3 p1 t0W.nodes s0W.2 :: RTreeObj p2 t0W :: RWObj pm4 p2 s0W.2 :: l) (fun _ s => ((((s.del 0).pull 1).pull 2).pull 3)) ⟨_, _, _, _, rfl, rfl⟩

theorem cd_rwOpen {w0 : World} {n : Nat} {Q : Exit → Act → World → Prop} {f : Fr} {c : Code} {l : List HProp} {pm pr : Nat} {o : List Int} (h : ∀ a4 c4, CD Try.prog w0 n c Q f (Blk pm (.cells #[.pointer (some ⟨pr, 0, none⟩), .slice a4 o.length c4, .int .i64 (o.length : Int)] 75 (0, 0)) :: Row 3 encI64 (.slice a4 o.length c4) o :: l)) : CD Try.prog w0 n c Q f (RWObj pm pr o :: l) := fun a w r s =>
  let ⟨a4, c4, s'⟩ := s.rwOpen
  h a4 c4 a w r s'

set_option maxRecDepth 100000 in
set_option maxHeartbeats 1000000 in
theorem do_calls {w0 w : World} {l : List HProp} (pt pw pr pm : Nat) (t : TreeS) (o : List Int) (a : WAct) (hs : Sat w0 w ((TreeObj pt t) :: (WObj pw pt t.nodes o) :: (RTreeObj pr t) :: (RWObj pm pr o) :: l)) (h1 : o.length ≤ t.nodes.length) (hok : OwnOK o) :
    Calls Try.prog 41 #[.agg #[.pointer (some ⟨pt, 0, none⟩), .pointer (some ⟨pw, 0, none⟩), .pointer (some ⟨pm, 0, none⟩)], .agg (wActC a).toArray] w (Ret w0 fun v l' => v = .bool true ∧ l' = TreeObj pt (stepW (t, o) a).1 :: WObj pw pt (stepW (t, o) a).1.nodes (stepW (t, o) a).2 :: RTreeObj pr (stepW (t, o) a).1 :: RWObj pm pr (stepW (t, o) a).2 :: l) := by
  have hw := hs.treeWF
  refine calls_enter Try.func41 rfl rfl rfl hs ?_
  refine cd_sr ?_   -- 0
  refine ol_i (wn_none rfl) (os_boxa rfl) rfl ?_; rintro _ _ ⟨bx1, rfl, rfl⟩
  refine ol_i (wn_none rfl) (os_boxa rfl) rfl ?_; rintro _ _ ⟨bx2, rfl, rfl⟩
  refine ol_q (wn_none rfl) (op_assign (v := .bool _) rfl) rfl ?_
  refine ol_nil_then ?_
  refine cd_cut (α := Nat × Nat) [(5, 6), (9, 14)] (fun x => [(5, .pointer (some ⟨x.1, 0, none⟩)), (6, .pointer (some ⟨x.2, 0, none⟩))]) (fun x => Blk x.1 (.cells (rootC (nameR a.root)).toArray 30 (0, 0)) :: Blk x.2 (.cells (rootC (nameR a.parent)).toArray 30 (0, 0)) :: Blk bx2 (.cells (wActC a).toArray 69 (0, 0)) :: Blk bx1 (.cells [.pointer (some ⟨pt, 0, none⟩), .pointer (some ⟨pw, 0, none⟩), .pointer (some ⟨pm, 0, none⟩)].toArray 66 (0, 0)) :: TreeObj pt t :: WObj pw pt t.nodes o :: RTreeObj pr t :: RWObj pm pr o :: l) ?_ ?_
  ·
    -- 1
    refine cd_drawe (M := []) mx [2, 5, 6, 7, 8, 9] ?_
    -- 0
    refine et_quiet 0 (by kernel_rfl) rfl (by kernel_rfl) (wn_none rfl) (op_field fld_69_1 rfl) rfl ?_
    -- 1
    refine et_quiet 1 (by kernel_rfl) rfl (by kernel_rfl) (wn_none rfl) (op_ld 0 sc_3 rfl rfl (wActC_a1 _)) rfl ?_
    -- 3
    refine et_quiet 3 (by kernel_rfl) rfl (by kernel_rfl) (wn_none rfl) (op_field fld_69_2 rfl) rfl ?_
    -- 4
    refine et_quiet 4 (by kernel_rfl) rfl (by kernel_rfl) (wn_none rfl) (op_ld 0 sc_3 rfl rfl (wActC_a2 _)) rfl ?_
    refine et_3 (i1 := 2) (i2 := 6) (i3 := 7) (by kernel_rfl) ?_ ?_ ?_
    · -- 2
      refine ei_i rfl rfl (wn_none rfl) (os_call cb_20 rfl (fun w s => Name_calls _  s )) rfl ?_; rintro _ l ⟨rfl, rfl⟩; refine ⟨[], rfl, ?_⟩
      refine et_3 (i1 := 5) (i2 := 6) (i3 := 7) (by kernel_rfl) ?_ ?_ ?_
      · -- 5
        refine ei_i rfl rfl (wn_none rfl) (os_call cb_20 rfl (fun w s => Name_calls _  s )) rfl ?_; rintro _ l ⟨rfl, rfl⟩; refine ⟨[], rfl, ?_⟩
        refine et_2 (i1 := 6) (i2 := 7) (by kernel_rfl) ?_ ?_
        · -- 6
          refine ei_i rfl rfl (wn_none rfl) (os_alloc (cs := (rootC Root.zero).toArray) zB_30 (by kernel_rfl)) rfl ?_; rintro _ _ ⟨bx3, rfl, rfl⟩; refine ⟨[_], rfl, ?_⟩
          refine et_1 (i := 7) (by kernel_rfl) ?_
          refine ei_i rfl rfl (wn_none rfl) (os_alloc (cs := (rootC Root.zero).toArray) zB_30 (by kernel_rfl)) rfl ?_; rintro _ _ ⟨bx4, rfl, rfl⟩; refine ⟨[_, _], rfl, ?_⟩
          refine et_1 (i := 8) (by kernel_rfl) ?_
          refine ei_iN rfl rfl (wn_none rfl) (os_pull1 (os_storera _ ag_30 rfl rfl (Free.zero _))) ?_; rintro _ _ ⟨rfl, rfl⟩; refine ⟨[_, _], rfl, ?_⟩
          refine et_1 (i := 9) (by kernel_rfl) ?_
          refine ei_iN rfl rfl (wn_none rfl) (os_pull1 (os_storera _ ag_30 rfl rfl (Free.zero _))) ?_; rintro _ _ ⟨rfl, rfl⟩; refine ⟨[_, _], rfl, ?_⟩
          refine et_nil (by kernel_rfl) ?_
          refine px_cut (bx3, bx4) ⟨rfl, rfl, trivial⟩ ?_ (fun _ s => ((((((((s.pull 7).pull 7).pull 7).pull 7).pull 7).pull 7).pull 6).pull 7))
          repeat (first | exact kept_self | exact kept_over | refine kept_upd rfl ?_ | refine kept_overS (by decide) ?_)
        · -- 7
          refine ei_i rfl rfl (wn_none rfl) (os_alloc (cs := (rootC Root.zero).toArray) zB_30 (by kernel_rfl)) rfl ?_; rintro _ _ ⟨bx5, rfl, rfl⟩; refine ⟨[_], rfl, ?_⟩
          refine et_1 (i := 6) (by kernel_rfl) ?_
          refine ei_i rfl rfl (wn_none rfl) (os_alloc (cs := (rootC Root.zero).toArray) zB_30 (by kernel_rfl)) rfl ?_; rintro _ _ ⟨bx6, rfl, rfl⟩; refine ⟨[_, _], rfl, ?_⟩
          refine et_1 (i := 8) (by kernel_rfl) ?_
          refine ei_iN rfl rfl (wn_none rfl) (os_storera _ ag_30 rfl rfl (Free.zero _)) ?_; rintro _ _ ⟨rfl, rfl⟩; refine ⟨[_, _], rfl, ?_⟩
          refine et_1 (i := 9) (by kernel_rfl) ?_
          refine ei_iN rfl rfl (wn_none rfl) (os_pull1 (os_storera _ ag_30 rfl rfl (Free.zero _))) ?_; rintro _ _ ⟨rfl, rfl⟩; refine ⟨[_, _], rfl, ?_⟩
          refine et_nil (by kernel_rfl) ?_
          refine px_cut (bx6, bx5) ⟨rfl, rfl, trivial⟩ ?_ (fun _ s => ((((((((s.pull 7).pull 7).pull 7).pull 7).pull 7).pull 7).pull 6).pull 7))
          repeat (first | exact kept_self | exact kept_over | refine kept_upd rfl ?_ | refine kept_overS (by decide) ?_)
      · -- 6
        refine ei_i rfl rfl (wn_none rfl) (os_alloc (cs := (rootC Root.zero).toArray) zB_30 (by kernel_rfl)) rfl ?_; rintro _ _ ⟨bx7, rfl, rfl⟩; refine ⟨[_], rfl, ?_⟩
        refine et_2 (i1 := 5) (i2 := 7) (by kernel_rfl) ?_ ?_
        · -- 5
          refine ei_i rfl rfl (wn_none rfl) (os_call cb_20 rfl (fun w s => Name_calls _  s )) rfl ?_; rintro _ l ⟨rfl, rfl⟩; refine ⟨[_], rfl, ?_⟩
          refine et_1 (i := 7) (by kernel_rfl) ?_
          refine ei_i rfl rfl (wn_none rfl) (os_alloc (cs := (rootC Root.zero).toArray) zB_30 (by kernel_rfl)) rfl ?_; rintro _ _ ⟨bx8, rfl, rfl⟩; refine ⟨[_, _], rfl, ?_⟩
          refine et_1 (i := 8) (by kernel_rfl) ?_
          refine ei_iN rfl rfl (wn_none rfl) (os_pull1 (os_storera _ ag_30 rfl rfl (Free.zero _))) ?_; rintro _ _ ⟨rfl, rfl⟩; refine ⟨[_, _], rfl, ?_⟩
          refine et_1 (i := 9) (by kernel_rfl) ?_
          refine ei_iN rfl rfl (wn_none rfl) (os_pull1 (os_storera _ ag_30 rfl rfl (Free.zero _))) ?_; rintro _ _ ⟨rfl, rfl⟩; refine ⟨[_, _], rfl, ?_⟩
          refine et_nil (by kernel_rfl) ?_
          refine px_cut (bx7, bx8) ⟨rfl, rfl, trivial⟩ ?_ (fun _ s => ((((((((s.pull 7).pull 7).pull 7).pull 7).pull 7).pull 7).pull 6).pull 7))
          repeat (first | exact kept_self | exact kept_over | refine kept_upd rfl ?_ | refine kept_overS (by decide) ?_)
        · -- 7
          refine ei_i rfl rfl (wn_none rfl) (os_alloc (cs := (rootC Root.zero).toArray) zB_30 (by kernel_rfl)) rfl ?_; rintro _ _ ⟨bx9, rfl, rfl⟩; refine ⟨[_, _], rfl, ?_⟩
          refine et_1 (i := 5) (by kernel_rfl) ?_
          refine ei_i rfl rfl (wn_none rfl) (os_call cb_20 rfl (fun w s => Name_calls _  s )) rfl ?_; rintro _ l ⟨rfl, rfl⟩; refine ⟨[_, _], rfl, ?_⟩
          refine et_1 (i := 8) (by kernel_rfl) ?_
          refine ei_iN rfl rfl (wn_none rfl) (os_pull1 (os_storera _ ag_30 rfl rfl (Free.zero _))) ?_; rintro _ _ ⟨rfl, rfl⟩; refine ⟨[_, _], rfl, ?_⟩
          refine et_1 (i := 9) (by kernel_rfl) ?_
          refine ei_iN rfl rfl (wn_none rfl) (os_pull1 (os_storera _ ag_30 rfl rfl (Free.zero _))) ?_; rintro _ _ ⟨rfl, rfl⟩; refine ⟨[_, _], rfl, ?_⟩
          refine et_nil (by kernel_rfl) ?_
          refine px_cut (bx7, bx9) ⟨rfl, rfl, trivial⟩ ?_ (fun _ s => ((((((((s.pull 7).pull 7).pull 7).pull 7).pull 7).pull 7).pull 6).pull 7))
          repeat (first | exact kept_self | exact kept_over | refine kept_upd rfl ?_ | refine kept_overS (by decide) ?_)
      · -- 7
        refine ei_i rfl rfl (wn_none rfl) (os_alloc (cs := (rootC Root.zero).toArray) zB_30 (by kernel_rfl)) rfl ?_; rintro _ _ ⟨bx10, rfl, rfl⟩; refine ⟨[_], rfl, ?_⟩
        refine et_2 (i1 := 5) (i2 := 6) (by kernel_rfl) ?_ ?_
        · -- 5
          refine ei_i rfl rfl (wn_none rfl) (os_call cb_20 rfl (fun w s => Name_calls _  s )) rfl ?_; rintro _ l ⟨rfl, rfl⟩; refine ⟨[_], rfl, ?_⟩
          refine et_1 (i := 6) (by kernel_rfl) ?_
          refine ei_i rfl rfl (wn_none rfl) (os_alloc (cs := (rootC Root.zero).toArray) zB_30 (by kernel_rfl)) rfl ?_; rintro _ _ ⟨bx11, rfl, rfl⟩; refine ⟨[_, _], rfl, ?_⟩
          refine et_1 (i := 8) (by kernel_rfl) ?_
          refine ei_iN rfl rfl (wn_none rfl) (os_storera _ ag_30 rfl rfl (Free.zero _)) ?_; rintro _ _ ⟨rfl, rfl⟩; refine ⟨[_, _], rfl, ?_⟩
          refine et_1 (i := 9) (by kernel_rfl) ?_
          refine ei_iN rfl rfl (wn_none rfl) (os_pull1 (os_storera _ ag_30 rfl rfl (Free.zero _))) ?_; rintro _ _ ⟨rfl, rfl⟩; refine ⟨[_, _], rfl, ?_⟩
          refine et_nil (by kernel_rfl) ?_
          refine px_cut (bx11, bx10) ⟨rfl, rfl, trivial⟩ ?_ (fun _ s => ((((((((s.pull 7).pull 7).pull 7).pull 7).pull 7).pull 7).pull 6).pull 7))
          repeat (first | exact kept_self | exact kept_over | refine kept_upd rfl ?_ | refine kept_overS (by decide) ?_)
        · -- 6
          refine ei_i rfl rfl (wn_none rfl) (os_alloc (cs := (rootC Root.zero).toArray) zB_30 (by kernel_rfl)) rfl ?_; rintro _ _ ⟨bx12, rfl, rfl⟩; refine ⟨[_, _], rfl, ?_⟩
          refine et_1 (i := 5) (by kernel_rfl) ?_
          refine ei_i rfl rfl (wn_none rfl) (os_call cb_20 rfl (fun w s => Name_calls _  s )) rfl ?_; rintro _ l ⟨rfl, rfl⟩; refine ⟨[_, _], rfl, ?_⟩
          refine et_1 (i := 8) (by kernel_rfl) ?_
          refine ei_iN rfl rfl (wn_none rfl) (os_storera _ ag_30 rfl rfl (Free.zero _)) ?_; rintro _ _ ⟨rfl, rfl⟩; refine ⟨[_, _], rfl, ?_⟩
          refine et_1 (i := 9) (by kernel_rfl) ?_
          refine ei_iN rfl rfl (wn_none rfl) (os_pull1 (os_storera _ ag_30 rfl rfl (Free.zero _))) ?_; rintro _ _ ⟨rfl, rfl⟩; refine ⟨[_, _], rfl, ?_⟩
          refine et_nil (by kernel_rfl) ?_
          refine px_cut (bx12, bx10) ⟨rfl, rfl, trivial⟩ ?_ (fun _ s => ((((((((s.pull 7).pull 7).pull 7).pull 7).pull 7).pull 7).pull 6).pull 7))
          repeat (first | exact kept_self | exact kept_over | refine kept_upd rfl ?_ | refine kept_overS (by decide) ?_)
    · -- 6
      refine ei_i rfl rfl (wn_none rfl) (os_alloc (cs := (rootC Root.zero).toArray) zB_30 (by kernel_rfl)) rfl ?_; rintro _ _ ⟨bx13, rfl, rfl⟩; refine ⟨[_], rfl, ?_⟩
      refine et_2 (i1 := 2) (i2 := 7) (by kernel_rfl) ?_ ?_
      · -- 2
        refine ei_i rfl rfl (wn_none rfl) (os_call cb_20 rfl (fun w s => Name_calls _  s )) rfl ?_; rintro _ l ⟨rfl, rfl⟩; refine ⟨[_], rfl, ?_⟩
        refine et_2 (i1 := 5) (i2 := 7) (by kernel_rfl) ?_ ?_
        · -- 5
          refine ei_i rfl rfl (wn_none rfl) (os_call cb_20 rfl (fun w s => Name_calls _  s )) rfl ?_; rintro _ l ⟨rfl, rfl⟩; refine ⟨[_], rfl, ?_⟩
          refine et_1 (i := 7) (by kernel_rfl) ?_
          refine ei_i rfl rfl (wn_none rfl) (os_alloc (cs := (rootC Root.zero).toArray) zB_30 (by kernel_rfl)) rfl ?_; rintro _ _ ⟨bx14, rfl, rfl⟩; refine ⟨[_, _], rfl, ?_⟩
          refine et_1 (i := 8) (by kernel_rfl) ?_
          refine ei_iN rfl rfl (wn_none rfl) (os_pull1 (os_storera _ ag_30 rfl rfl (Free.zero _))) ?_; rintro _ _ ⟨rfl, rfl⟩; refine ⟨[_, _], rfl, ?_⟩
          refine et_1 (i := 9) (by kernel_rfl) ?_
          refine ei_iN rfl rfl (wn_none rfl) (os_pull1 (os_storera _ ag_30 rfl rfl (Free.zero _))) ?_; rintro _ _ ⟨rfl, rfl⟩; refine ⟨[_, _], rfl, ?_⟩
          refine et_nil (by kernel_rfl) ?_
          refine px_cut (bx13, bx14) ⟨rfl, rfl, trivial⟩ ?_ (fun _ s => ((((((((s.pull 7).pull 7).pull 7).pull 7).pull 7).pull 7).pull 6).pull 7))
          repeat (first | exact kept_self | exact kept_over | refine kept_upd rfl ?_ | refine kept_overS (by decide) ?_)
        · -- 7
          refine ei_i rfl rfl (wn_none rfl) (os_alloc (cs := (rootC Root.zero).toArray) zB_30 (by kernel_rfl)) rfl ?_; rintro _ _ ⟨bx15, rfl, rfl⟩; refine ⟨[_, _], rfl, ?_⟩
          refine et_1 (i := 5) (by kernel_rfl) ?_
          refine ei_i rfl rfl (wn_none rfl) (os_call cb_20 rfl (fun w s => Name_calls _  s )) rfl ?_; rintro _ l ⟨rfl, rfl⟩; refine ⟨[_, _], rfl, ?_⟩
          refine et_1 (i := 8) (by kernel_rfl) ?_
          refine ei_iN rfl rfl (wn_none rfl) (os_pull1 (os_storera _ ag_30 rfl rfl (Free.zero _))) ?_; rintro _ _ ⟨rfl, rfl⟩; refine ⟨[_, _], rfl, ?_⟩
          refine et_1 (i := 9) (by kernel_rfl) ?_
          refine ei_iN rfl rfl (wn_none rfl) (os_pull1 (os_storera _ ag_30 rfl rfl (Free.zero _))) ?_; rintro _ _ ⟨rfl, rfl⟩; refine ⟨[_, _], rfl, ?_⟩
          refine et_nil (by kernel_rfl) ?_
          refine px_cut (bx13, bx15) ⟨rfl, rfl, trivial⟩ ?_ (fun _ s => ((((((((s.pull 7).pull 7).pull 7).pull 7).pull 7).pull 7).pull 6).pull 7))
          repeat (first | exact kept_self | exact kept_over | refine kept_upd rfl ?_ | refine kept_overS (by decide) ?_)
      · -- 7
        refine ei_i rfl rfl (wn_none rfl) (os_alloc (cs := (rootC Root.zero).toArray) zB_30 (by kernel_rfl)) rfl ?_; rintro _ _ ⟨bx16, rfl, rfl⟩; refine ⟨[_, _], rfl, ?_⟩
        refine et_1 (i := 2) (by kernel_rfl) ?_
        refine ei_i rfl rfl (wn_none rfl) (os_call cb_20 rfl (fun w s => Name_calls _  s )) rfl ?_; rintro _ l ⟨rfl, rfl⟩; refine ⟨[_, _], rfl, ?_⟩
        refine et_1 (i := 5) (by kernel_rfl) ?_
        refine ei_i rfl rfl (wn_none rfl) (os_call cb_20 rfl (fun w s => Name_calls _  s )) rfl ?_; rintro _ l ⟨rfl, rfl⟩; refine ⟨[_, _], rfl, ?_⟩
        refine et_1 (i := 8) (by kernel_rfl) ?_
        refine ei_iN rfl rfl (wn_none rfl) (os_pull1 (os_storera _ ag_30 rfl rfl (Free.zero _))) ?_; rintro _ _ ⟨rfl, rfl⟩; refine ⟨[_, _], rfl, ?_⟩
        refine et_1 (i := 9) (by kernel_rfl) ?_
        refine ei_iN rfl rfl (wn_none rfl) (os_pull1 (os_storera _ ag_30 rfl rfl (Free.zero _))) ?_; rintro _ _ ⟨rfl, rfl⟩; refine ⟨[_, _], rfl, ?_⟩
        refine et_nil (by kernel_rfl) ?_
        refine px_cut (bx13, bx16) ⟨rfl, rfl, trivial⟩ ?_ (fun _ s => ((((((((s.pull 7).pull 7).pull 7).pull 7).pull 7).pull 7).pull 6).pull 7))
        repeat (first | exact kept_self | exact kept_over | refine kept_upd rfl ?_ | refine kept_overS (by decide) ?_)
    · -- 7
      refine ei_i rfl rfl (wn_none rfl) (os_alloc (cs := (rootC Root.zero).toArray) zB_30 (by kernel_rfl)) rfl ?_; rintro _ _ ⟨bx17, rfl, rfl⟩; refine ⟨[_], rfl, ?_⟩
      refine et_2 (i1 := 2) (i2 := 6) (by kernel_rfl) ?_ ?_
      · -- 2
        refine ei_i rfl rfl (wn_none rfl) (os_call cb_20 rfl (fun w s => Name_calls _  s )) rfl ?_; rintro _ l ⟨rfl, rfl⟩; refine ⟨[_], rfl, ?_⟩
        refine et_2 (i1 := 5) (i2 := 6) (by kernel_rfl) ?_ ?_
        · -- 5
          refine ei_i rfl rfl (wn_none rfl) (os_call cb_20 rfl (fun w s => Name_calls _  s )) rfl ?_; rintro _ l ⟨rfl, rfl⟩; refine ⟨[_], rfl, ?_⟩
          refine et_1 (i := 6) (by kernel_rfl) ?_
          refine ei_i rfl rfl (wn_none rfl) (os_alloc (cs := (rootC Root.zero).toArray) zB_30 (by kernel_rfl)) rfl ?_; rintro _ _ ⟨bx18, rfl, rfl⟩; refine ⟨[_, _], rfl, ?_⟩
          refine et_1 (i := 8) (by kernel_rfl) ?_
          refine ei_iN rfl rfl (wn_none rfl) (os_storera _ ag_30 rfl rfl (Free.zero _)) ?_; rintro _ _ ⟨rfl, rfl⟩; refine ⟨[_, _], rfl, ?_⟩
          refine et_1 (i := 9) (by kernel_rfl) ?_
          refine ei_iN rfl rfl (wn_none rfl) (os_pull1 (os_storera _ ag_30 rfl rfl (Free.zero _))) ?_; rintro _ _ ⟨rfl, rfl⟩; refine ⟨[_, _], rfl, ?_⟩
          refine et_nil (by kernel_rfl) ?_
          refine px_cut (bx18, bx17) ⟨rfl, rfl, trivial⟩ ?_ (fun _ s => ((((((((s.pull 7).pull 7).pull 7).pull 7).pull 7).pull 7).pull 6).pull 7))
          repeat (first | exact kept_self | exact kept_over | refine kept_upd rfl ?_ | refine kept_overS (by decide) ?_)
        · -- 6
          refine ei_i rfl rfl (wn_none rfl) (os_alloc (cs := (rootC Root.zero).toArray) zB_30 (by kernel_rfl)) rfl ?_; rintro _ _ ⟨bx19, rfl, rfl⟩; refine ⟨[_, _], rfl, ?_⟩
          refine et_1 (i := 5) (by kernel_rfl) ?_
          refine ei_i rfl rfl (wn_none rfl) (os_call cb_20 rfl (fun w s => Name_calls _  s )) rfl ?_; rintro _ l ⟨rfl, rfl⟩; refine ⟨[_, _], rfl, ?_⟩
          refine et_1 (i := 8) (by kernel_rfl) ?_
          refine ei_iN rfl rfl (wn_none rfl) (os_storera _ ag_30 rfl rfl (Free.zero _)) ?_; rintro _ _ ⟨rfl, rfl⟩; refine ⟨[_, _], rfl, ?_⟩
          refine et_1 (i := 9) (by kernel_rfl) ?_
          refine ei_iN rfl rfl (wn_none rfl) (os_pull1 (os_storera _ ag_30 rfl rfl (Free.zero _))) ?_; rintro _ _ ⟨rfl, rfl⟩; refine ⟨[_, _], rfl, ?_⟩
          refine et_nil (by kernel_rfl) ?_
          refine px_cut (bx19, bx17) ⟨rfl, rfl, trivial⟩ ?_ (fun _ s => ((((((((s.pull 7).pull 7).pull 7).pull 7).pull 7).pull 7).pull 6).pull 7))
          repeat (first | exact kept_self | exact kept_over | refine kept_upd rfl ?_ | refine kept_overS (by decide) ?_)
      · -- 6
        refine ei_i rfl rfl (wn_none rfl) (os_alloc (cs := (rootC Root.zero).toArray) zB_30 (by kernel_rfl)) rfl ?_; rintro _ _ ⟨bx20, rfl, rfl⟩; refine ⟨[_, _], rfl, ?_⟩
        refine et_1 (i := 2) (by kernel_rfl) ?_
        refine ei_i rfl rfl (wn_none rfl) (os_call cb_20 rfl (fun w s => Name_calls _  s )) rfl ?_; rintro _ l ⟨rfl, rfl⟩; refine ⟨[_, _], rfl, ?_⟩
        refine et_1 (i := 5) (by kernel_rfl) ?_
        refine ei_i rfl rfl (wn_none rfl) (os_call cb_20 rfl (fun w s => Name_calls _  s )) rfl ?_; rintro _ l ⟨rfl, rfl⟩; refine ⟨[_, _], rfl, ?_⟩
        refine et_1 (i := 8) (by kernel_rfl) ?_
        refine ei_iN rfl rfl (wn_none rfl) (os_storera _ ag_30 rfl rfl (Free.zero _)) ?_; rintro _ _ ⟨rfl, rfl⟩; refine ⟨[_, _], rfl, ?_⟩
        refine et_1 (i := 9) (by kernel_rfl) ?_
        refine ei_iN rfl rfl (wn_none rfl) (os_pull1 (os_storera _ ag_30 rfl rfl (Free.zero _))) ?_; rintro _ _ ⟨rfl, rfl⟩; refine ⟨[_, _], rfl, ?_⟩
        refine et_nil (by kernel_rfl) ?_
        refine px_cut (bx20, bx17) ⟨rfl, rfl, trivial⟩ ?_ (fun _ s => ((((((((s.pull 7).pull 7).pull 7).pull 7).pull 7).pull 7).pull 6).pull 7))
        repeat (first | exact kept_self | exact kept_over | refine kept_upd rfl ?_ | refine kept_overS (by decide) ?_)
  · rintro ⟨bq1, bq2⟩ f; (try dsimp only)
    refine cd_seq ?_
    refine cd_sr ?_   -- 2
    refine ol_q (wn_none rfl) (op_field fld_69_0 rfl) rfl ?_
    refine ol_q (wn_none rfl) (op_ld 2 sc_3 rfl rfl (wActC_a0 _)) rfl ?_
    refine ol_q (wn_none rfl) (op_eq rfl rfl) rfl ?_
    refine ol_nil_then ?_
    refine cd_cond rfl (fun hb1 => ?_) (fun hb1 => ?_)
    · have hp1 := hb1
      (try simp only [decide_eq_true_eq, decide_eq_false_iff_not, Bool.not_eq_true', Bool.not_eq_false', ne_eq, Decidable.not_not] at hp1)
      refine cd_pull7 ?_
      refine cd_rwOpen ?_; intro a4 c4
      refine cd_pull8 ?_
      refine cd_pull7 ?_
      refine cd_seq ?_   -- 3
      refine cd_draw (M := [_, _]) mx [6, 16] (by kernel_rfl) ?_
      refine rg_q (wn_none rfl) (op_field fld_66_0 rfl) rfl rfl ?_
      refine rg_q (wn_none rfl) (op_ld 5 sc_24 rfl rfl rfl) rfl rfl ?_
      refine rg_q (wn_none rfl) (op_lda (L := rootC _) 2 ag_30 rfl rfl (rootC_take' _) (by simp [rootC_len])) rfl rfl ?_
      refine rg_q (wn_none rfl) (op_lda (L := rootC _) 3 ag_30 rfl rfl (rootC_take' _) (by simp [rootC_len])) rfl rfl ?_
      refine rg_q (wn_none rfl) (op_field fld_69_3 rfl) rfl rfl ?_
      refine rg_q (wn_none rfl) (op_ld 4 sc_3 rfl rfl (wActC_a3 _)) rfl rfl ?_
      refine rg_i (wn_none rfl) (os_call cb_22 rfl (fun w s => Add_calls _ _ _ _ _  s )) rfl rfl ?_; rintro _ _ ⟨rfl, rfl⟩; refine ⟨[_, _], rfl, ?_⟩
      refine rg_q (wn_none rfl) (op_field fld_66_2 rfl) rfl rfl ?_
      refine rg_q (wn_none rfl) (op_ld 5 sc_64 rfl rfl rfl) rfl rfl ?_
      refine rg_q (wn_none rfl) (op_nilck rfl) rfl rfl ?_
      refine rg_q (wn_none rfl) (op_field fld_75_0 rfl) rfl rfl ?_
      refine rg_q (wn_none rfl) (op_ld 0 sc_25 rfl rfl rfl) rfl rfl ?_
      refine rg_q (wn_none rfl) (op_lda (L := rootC _) 2 ag_30 rfl rfl (rootC_take' _) (by simp [rootC_len])) rfl rfl ?_
      refine rg_q (wn_none rfl) (op_lda (L := rootC _) 3 ag_30 rfl rfl (rootC_take' _) (by simp [rootC_len])) rfl rfl ?_
      refine rg_q (wn_none rfl) (op_field fld_69_3 rfl) rfl rfl ?_
      refine rg_q (wn_none rfl) (op_ld 4 sc_3 rfl rfl (wActC_a3 _)) rfl rfl ?_
      refine rg_i (wn_none rfl) (os_pull1 (os_call cb_32 rfl (fun w s => RAdd_calls _ _ _ _ _  s ))) rfl rfl ?_; rintro _ _ ⟨rfl, rfl⟩; refine ⟨[_, _], rfl, ?_⟩
      refine rg_q (wn_none rfl) (op_eq rfl rfl) rfl rfl ?_
      refine rg_q (wn_none rfl) (op_assign (v := .bool _) rfl) rfl rfl ?_
      refine rg_nil_then2 ?_
      refine cd_ret ?_
      refine px_thenR ?_
      have hst := stepW_add (s := (t, o)) (a := a) (by omega)
      rw [hst]
      exact px_ret1 rfl (v := .bool _) (l' := TreeObj pt (t.add (nameR a.root) (nameR a.parent) a.slot).2 :: WObj pw pt (t.add (nameR a.root) (nameR a.parent) a.slot).2.nodes o :: RTreeObj pr (t.add (nameR a.root) (nameR a.parent) a.slot).2 :: RWObj pm pr o :: l) rfl (fun _ s => by
        have s2 : Sat _ _ (RWObj pm pr o :: TreeObj pt (t.add (nameR a.root) (nameR a.parent) a.slot).2 :: WObj pw pt t.nodes o :: RTreeObj pr (t.add (nameR a.root) (nameR a.parent) a.slot).2 :: l) := Sat.rwMk rfl rfl ((((((((s.del 7).del 6).del 5).del 4).pull 4).pull 2).pull 4).pull 4)
        have s3 := ((s2.pull 3).pull 3).pull 3
        show Sat _ _ (_ :: WRaw _ _ _ (sumL _ _) _ _ :: _)
        (try dsimp only)
        rw [sumL_add hw h1, bestL_add (by rw [sumL_len]; exact h1), leafL_add (by rw [sumL_len]; exact h1)]
        exact s3) ⟨congrArg Value.bool (by simp), rfl⟩
    · have hp1 := hb1
      (try simp only [decide_eq_true_eq, decide_eq_false_iff_not, Bool.not_eq_true', Bool.not_eq_false', ne_eq, Decidable.not_not] at hp1)
      refine cd_skip ?_
      refine px_then ?_
      refine cd_sr ?_   -- 4
      refine ol_q (wn_none rfl) (op_lda (L := rootC _) 0 ag_30 rfl rfl (rootC_take' _) (by simp [rootC_len])) rfl ?_
      refine ol_q (wn_none rfl) (op_field fld_69_4 rfl) rfl ?_
      refine ol_q (wn_none rfl) (op_ld 2 sc_3 rfl rfl (wActC_a4 _)) rfl ?_
      refine ol_q (wn_none rfl) (op_build (L := deltaC _) (vs := [(0, .agg (rootC _).toArray), (1, .int _ _)]) bB_80 rfl ⟨⟨by simp [Value.cells, rootC_len], by rw [deltaC_len]; rfl⟩, ⟨rfl, by rw [deltaC_len]; rfl⟩, trivial⟩ ((deltaC_b0 _ _ _).trans ((deltaC_b1 _ _ _).trans rfl))) rfl ?_
      refine ol_i (wn_none rfl) (os_bslice (E := encDelta) [_] (ys := [_]) sB_77 zv_80 rfl rfl rfl rfl (by decide)) rfl ?_; rintro _ _ ⟨ao1, rfl, rfl⟩
      refine ol_q (wn_none rfl) (op_assign (v := .slice _ _ _) rfl) rfl ?_
      refine ol_nil_then ?_
      refine cd_sr ?_   -- 5
      refine ol_q (wn_none rfl) (op_lda (L := rootC _) 1 ag_30 rfl rfl (rootC_take' _) (by simp [rootC_len])) rfl ?_
      refine ol_q (wn_none rfl) (op_field fld_69_4 rfl) rfl ?_
      refine ol_q (wn_none rfl) (op_ld 3 sc_3 rfl rfl (wActC_a4 _)) rfl ?_
      refine ol_q (wn_none rfl) (op_build (L := deltaC _) (vs := [(0, .agg (rootC _).toArray), (1, .int _ _)]) bB_99 rfl ⟨⟨by simp [Value.cells, rootC_len], by rw [deltaC_len]; rfl⟩, ⟨rfl, by rw [deltaC_len]; rfl⟩, trivial⟩ ((deltaC_b0 _ _ _).trans ((deltaC_b1 _ _ _).trans rfl))) rfl ?_
      refine ol_i (wn_none rfl) (os_bslice (E := encDelta) [_] (ys := [_]) sB_100 zv_99 rfl rfl rfl rfl (by decide)) rfl ?_; rintro _ _ ⟨ao2, rfl, rfl⟩
      refine ol_q (wn_none rfl) (op_assign (v := .slice _ _ _) rfl) rfl ?_
      refine ol_nil_then ?_
      refine cd_seq ?_
      refine cd_sr ?_   -- 6
      refine ol_q (wn_none rfl) (op_field fld_69_5 rfl) rfl ?_
      refine ol_q (wn_none rfl) (op_ld 4 sc_3 rfl rfl (wActC_a5 _)) rfl ?_
      refine ol_q (wn_none rfl) (op_ne rfl rfl) rfl ?_
      refine ol_nil_then ?_
      refine cd_cond rfl (fun hb2 => ?_) (fun hb2 => ?_)
      · have hp2 := hb2
        (try simp only [decide_eq_true_eq, decide_eq_false_iff_not, Bool.not_eq_true', Bool.not_eq_false', ne_eq, Decidable.not_not] at hp2)
        have hdd : deltasW a = [⟨nameR a.root, a.n⟩] ++ [⟨nameR a.parent, a.more⟩] := by unfold deltasW; rw [if_neg (by omega)]; rfl
        refine cd_sr ?_   -- 7
        refine ol_q (wn_none rfl) (op_move (v := .slice _ _ _) rfl) rfl ?_
        refine ol_q (wn_none rfl) (op_lda (L := rootC _) 3 ag_30 rfl rfl (rootC_take' _) (by simp [rootC_len])) rfl ?_
        refine ol_q (wn_none rfl) (op_field fld_69_5 rfl) rfl ?_
        refine ol_q (wn_none rfl) (op_ld 4 sc_3 rfl rfl (wActC_a5 _)) rfl ?_
        refine ol_q (wn_none rfl) (op_build (L := deltaC _) (vs := [(0, .agg (rootC _).toArray), (1, .int _ _)]) bB_80 rfl ⟨⟨by simp [Value.cells, rootC_len], by rw [deltaC_len]; rfl⟩, ⟨rfl, by rw [deltaC_len]; rfl⟩, trivial⟩ ((deltaC_b0 _ _ _).trans ((deltaC_b1 _ _ _).trans rfl))) rfl ?_
        refine ol_i (wn_none rfl) (os_bslice (E := encDelta) [_] (ys := [_]) sB_77 zv_80 rfl rfl rfl rfl (by decide)) rfl ?_; rintro _ _ ⟨ao3, rfl, rfl⟩
        refine ol_pull2 ?_
        refine ol_i (wn_none rfl) (os_append (E := encDelta) rfl sB_77 zv_80 rfl rfl rfl (fun w s => (rds_row 1 rfl rfl) [] w s) rfl (by simp) (by unfold maxLen; simp)) rfl ?_; rintro _ _ ⟨ao4, ac4, rfl, rfl⟩
        refine ol_q (wn_none rfl) (op_assign (v := .slice _ _ _) rfl) rfl ?_
        refine ol_nil_then ?_
        refine cd_region ?_   -- 8
        refine ol_q (wn_none rfl) (op_move (v := .slice _ _ _) rfl) rfl ?_
        refine ol_q (wn_none rfl) (op_lda (L := rootC _) 4 ag_30 rfl rfl (rootC_take' _) (by simp [rootC_len])) rfl ?_
        refine ol_q (wn_none rfl) (op_field fld_69_5 rfl) rfl ?_
        refine ol_q (wn_none rfl) (op_ld 5 sc_3 rfl rfl (wActC_a5 _)) rfl ?_
        refine ol_q (wn_none rfl) (op_build (L := deltaC _) (vs := [(0, .agg (rootC _).toArray), (1, .int _ _)]) bB_99 rfl ⟨⟨by simp [Value.cells, rootC_len], by rw [deltaC_len]; rfl⟩, ⟨rfl, by rw [deltaC_len]; rfl⟩, trivial⟩ ((deltaC_b0 _ _ _).trans ((deltaC_b1 _ _ _).trans rfl))) rfl ?_
        refine ol_i (wn_none rfl) (os_bslice (E := encDelta) [_] (ys := [_]) sB_100 zv_99 rfl rfl rfl rfl (by decide)) rfl ?_; rintro _ _ ⟨ao5, rfl, rfl⟩
        refine ol_pull3 ?_
        refine ol_i (wn_none rfl) (os_append (E := encDelta) rfl sB_100 zv_99 rfl rfl rfl (fun w s => (rds_row 1 rfl rfl) [] w s) rfl (by simp) (by unfold maxLen; simp)) rfl ?_; rintro _ _ ⟨ao6, ac6, rfl, rfl⟩
        refine ol_q (wn_none rfl) (op_assign (v := .slice _ _ _) rfl) rfl ?_
        refine ol_nil ?_
        refine px_then ?_
        refine cd_pull10 ?_
        refine cd_pull11 ?_
        refine cd_pull10 ?_
        refine cd_pull11 ?_
        refine cd_seq ?_   -- 9
        refine cd_draw (M := [_, _, _, _]) mx [3, 7] (by kernel_rfl) ?_
        refine rg_q (wn_none rfl) (op_field fld_66_1 rfl) rfl rfl ?_
        refine rg_q (wn_none rfl) (op_ld 7 sc_58 rfl rfl rfl) rfl rfl ?_
        refine rg_q (wn_none rfl) (op_move (v := .slice _ _ _) rfl) rfl rfl ?_
        refine rg_i (wn_none rfl) (os_pull1 (os_call cb_36 rfl (fun w s => Apply_calls _ _ _ _ _ _ _  s (by first | assumption | omega) (by assumption) (rds_row 4 rfl rfl) (by first | omega | decide | (simp; done) | (simp; omega))))) rfl rfl ?_; rintro _ _ ⟨rfl, rfl⟩; refine ⟨[_, _, _, _], rfl, ?_⟩
        refine rg_q (wn_none rfl) (op_field fld_66_2 rfl) rfl rfl ?_
        refine rg_q (wn_none rfl) (op_ld 7 sc_64 rfl rfl rfl) rfl rfl ?_
        refine rg_q (wn_none rfl) (op_move (v := .slice _ _ _) rfl) rfl rfl ?_
        refine rg_i (wn_none rfl) (os_pull2 (os_pull3 (os_call cb_58 rfl (fun w s => RApply_calls _ _ _ _ _ _ _  s (by first | assumption | omega) (by assumption) (rds_row 2 rfl rfl) (by first | omega | decide | (simp; done) | (simp; omega)))))) rfl rfl ?_; rintro _ _ ⟨rfl, rfl⟩; refine ⟨[_, _, _, _], rfl, ?_⟩
        refine rg_q (wn_none rfl) (op_eq rfl rfl) rfl rfl ?_
        refine rg_q (wn_none rfl) (op_assign (v := .bool _) rfl) rfl rfl ?_
        refine rg_nil_then4 ?_
        refine cd_ret ?_
        have hst := stepW_app (s := (t, o)) (a := a) (by omega)
        rw [hst]
        have hdl : deltasW a = _ := hdd
        rw [hdl]
        exact px_ret1 rfl (v := .bool _) (l' := TreeObj pt t :: WObj pw pt t.nodes (applyO t.nodes o _).2 :: RTreeObj pr t :: RWObj pm pr (applyO t.nodes o _).2 :: l) rfl (fun _ s => ((((((((((((s.del 11).del 10).del 9).del 8).del 7).del 6).del 5).del 4).pull 1).pull 1).pull 3).pull 3)) ⟨congrArg Value.bool (by simp), rfl⟩
      · have hp2 := hb2
        (try simp only [decide_eq_true_eq, decide_eq_false_iff_not, Bool.not_eq_true', Bool.not_eq_false', ne_eq, Decidable.not_not] at hp2)
        have hdd : deltasW a = [⟨nameR a.root, a.n⟩] := by unfold deltasW; rw [if_pos (by omega)]
        refine cd_skip ?_
        refine px_then ?_
        refine cd_pull8 ?_
        refine cd_pull9 ?_
        refine cd_pull8 ?_
        refine cd_pull9 ?_
        refine cd_seq ?_   -- 9
        refine cd_draw (M := [_, _, _, _]) mx [3, 7] (by kernel_rfl) ?_
        refine rg_q (wn_none rfl) (op_field fld_66_1 rfl) rfl rfl ?_
        refine rg_q (wn_none rfl) (op_ld 5 sc_58 rfl rfl rfl) rfl rfl ?_
        refine rg_q (wn_none rfl) (op_move (v := .slice _ _ _) rfl) rfl rfl ?_
        refine rg_i (wn_none rfl) (os_pull1 (os_call cb_36 rfl (fun w s => Apply_calls _ _ _ _ _ _ _  s (by first | assumption | omega) (by assumption) (rds_row 3 rfl rfl) (by first | omega | decide | (simp; done) | (simp; omega))))) rfl rfl ?_; rintro _ _ ⟨rfl, rfl⟩; refine ⟨[_, _, _, _], rfl, ?_⟩
        refine rg_q (wn_none rfl) (op_field fld_66_2 rfl) rfl rfl ?_
        refine rg_q (wn_none rfl) (op_ld 5 sc_64 rfl rfl rfl) rfl rfl ?_
        refine rg_q (wn_none rfl) (op_move (v := .slice _ _ _) rfl) rfl rfl ?_
        refine rg_i (wn_none rfl) (os_pull2 (os_pull3 (os_call cb_58 rfl (fun w s => RApply_calls _ _ _ _ _ _ _  s (by first | assumption | omega) (by assumption) (rds_row 2 rfl rfl) (by first | omega | decide | (simp; done) | (simp; omega)))))) rfl rfl ?_; rintro _ _ ⟨rfl, rfl⟩; refine ⟨[_, _, _, _], rfl, ?_⟩
        refine rg_q (wn_none rfl) (op_eq rfl rfl) rfl rfl ?_
        refine rg_q (wn_none rfl) (op_assign (v := .bool _) rfl) rfl rfl ?_
        refine rg_nil_then4 ?_
        refine cd_ret ?_
        have hst := stepW_app (s := (t, o)) (a := a) (by omega)
        rw [hst]
        have hdl : deltasW a = _ := hdd
        rw [hdl]
        exact px_ret1 rfl (v := .bool _) (l' := TreeObj pt t :: WObj pw pt t.nodes (applyO t.nodes o _).2 :: RTreeObj pr t :: RWObj pm pr (applyO t.nodes o _).2 :: l) rfl (fun _ s => ((((((((((s.del 9).del 8).del 7).del 6).del 5).del 4).pull 1).pull 1).pull 3).pull 3)) ⟨congrArg Value.bool (by simp), rfl⟩
end Go.SL
