import Derived.KernelRfl
set_option linter.unusedVariables false
set_option linter.unusedSimpArgs false
set_option linter.unusedSectionVars false
namespace Go.SL
structure HidM (p:Prop):Prop where
  h:p
theorem Z19 {a0:Sort _} {q:∀ (zz0:a0),Prop} {p:Prop} (k:∀ (zz0:a0),q zz0) (h:HidM (∀ (zz0:a0),q zz0)→p:=by intro zk;refine oi (os_boxa rfl) ?_;rintro _ _ ⟨zz0,rfl,rfl⟩;exact zk.h zz0):p:=h ⟨k⟩
theorem Z6e {p q:Prop} (k:q) (h:HidM q→p:=by intro zk;refine ol_q (wn_some rfl rfl rfl rfl rfl) (op_move (v:=.pointer _) rfl) rfl ?_;exact zk.h):p:=h ⟨k⟩
theorem Z6f {p q:Prop} (k:q) (h:HidM q→p:=by intro zk;refine ol_q (wn_some rfl rfl rfl rfl rfl) (op_nilck rfl) rfl ?_;exact zk.h):p:=h ⟨k⟩
theorem Z1n {p q:Prop} (k:q) (h:HidM q→p:=by intro zk;refine oq (op_pick_f (v:=.bool _) rfl rfl rfl) ?_;exact zk.h):p:=h ⟨k⟩
theorem Z4 {p q0 q1:Prop} (k0:q0) (k1:q1) (h:HidM q0→HidM q1→p:=by intro zk0 zk1;refine cdc rfl ?_ ?_;exact zk0.h;exact zk1.h):p:=h ⟨k0⟩ ⟨k1⟩
theorem Z58 {p:Prop} (h:p:=by exact absurd (of_decide_eq_true hb1) (by omega)):p:=h
theorem Z23 {p q:Prop} (k:q) (h:HidM q→p:=by intro zk;refine cd_cond_f rfl rfl ?_;exact zk.h):p:=h ⟨k⟩
theorem Z2p {p:Prop} (h:p:=by exact px_ret1 rfl (v:=.int _ _) rfl (fun _ s=>s) ⟨rfl,rfl⟩):p:=h
theorem Zo {p q:Prop} (k:q) (h:HidM q→p:=by intro zk;refine cd_draw (M:=[]) mx [] (by kernel_rfl) ?_;exact zk.h):p:=h ⟨k⟩
theorem Zu {p q:Prop} (k:q) (h:HidM q→p:=by intro zk;refine rg_nil_then0 ?_;exact zk.h):p:=h ⟨k⟩
theorem Z3f {p q:Prop} (k:q) (h:HidM q→p:=by intro zk;refine ol_q (wn_some rfl rfl rfl rfl rfl) (op_move (v:=.int _ _) rfl) rfl ?_;exact zk.h):p:=h ⟨k⟩
theorem Zr {p q:Prop} (k:q) (h:HidM q→p:=by intro zk;refine oq (op_pick_t (v:=.bool _) rfl rfl rfl) ?_;exact zk.h):p:=h ⟨k⟩
theorem Zv {p q:Prop} (k:q) (h:HidM q→p:=by intro zk;refine ol_q (wn_some rfl rfl rfl hb1 rfl) (op_move (v:=.int _ _) rfl) rfl ?_;exact zk.h):p:=h ⟨k⟩
theorem Z3q {p q:Prop} (k:q) (h:HidM q→p:=by intro zk;refine ol_q (wn_some rfl rfl rfl hb1 rfl) (op_move (v:=.pointer _) rfl) rfl ?_;exact zk.h):p:=h ⟨k⟩
theorem Z48 {p q:Prop} (k:q) (h:HidM q→p:=by intro zk;refine ol_q (wn_some rfl rfl rfl hb1 rfl) (op_nilck rfl) rfl ?_;exact zk.h):p:=h ⟨k⟩
theorem Z6g {p q:Prop} (k:q) (h:HidM q→p:=by intro zk;refine ol_q (wn_some rfl rfl rfl hb1 rfl) (op_le rfl rfl) rfl ?_;exact zk.h):p:=h ⟨k⟩
theorem Zq {p q:Prop} (k:q) (h:HidM q→p:=by intro zk;refine oq (op_pick_t (v:=.bool _) rfl hb1 rfl) ?_;exact zk.h):p:=h ⟨k⟩
theorem Z24 {p q:Prop} (k:q) (h:HidM q→p:=by intro zk;refine ol_skip (wn_some rfl rfl rfl hb1 rfl) rfl ?_;exact zk.h):p:=h ⟨k⟩
theorem Zf {p q:Prop} (k:q) (h:HidM q→p:=by intro zk;refine oq (op_pick_f (v:=.bool _) rfl hb1 rfl) ?_;exact zk.h):p:=h ⟨k⟩
theorem Z3r {p q:Prop} (k:q) (h:HidM q→p:=by intro zk;refine ol_q (wn_some rfl rfl rfl hb1 rfl) (op_gt rfl rfl) rfl ?_;exact zk.h):p:=h ⟨k⟩
theorem Z2a {p q:Prop} (k:q) (h:HidM q→p:=by intro zk;refine ol_q (wn_some rfl rfl rfl hb2 rfl) (op_move (v:=.int _ _) rfl) rfl ?_;exact zk.h):p:=h ⟨k⟩
theorem Z49 {p q:Prop} (k:q) (h:HidM q→p:=by intro zk;refine ol_q (wn_some rfl rfl rfl hb2 rfl) (op_lt rfl rfl) rfl ?_;exact zk.h):p:=h ⟨k⟩
theorem Z1o {p q:Prop} (k:q) (h:HidM q→p:=by intro zk;refine oq (op_pick_f (v:=.bool _) rfl hb2 rfl) ?_;exact zk.h):p:=h ⟨k⟩
theorem Z2h {p q:Prop} (k:q) (h:HidM q→p:=by intro zk;refine ol_q (wn_some rfl rfl rfl hb3 rfl) (op_move (v:=.int _ _) rfl) rfl ?_;exact zk.h):p:=h ⟨k⟩
theorem Z3g {p q:Prop} (k:q) (h:HidM q→p:=by intro zk;refine ol_q (wn_some rfl rfl rfl hb3 rfl) (op_gt rfl rfl) rfl ?_;exact zk.h):p:=h ⟨k⟩
theorem Z1v {p q:Prop} (k:q) (h:HidM q→p:=by intro zk;refine oq (op_pick_f (v:=.bool _) rfl hb3 rfl) ?_;exact zk.h):p:=h ⟨k⟩
theorem Z4p {p q:Prop} (k:q) (h:HidM q→p:=by intro zk;refine oq (op_eqnil Tryz.underlying109 rfl rfl) ?_;exact zk.h):p:=h ⟨k⟩
theorem Z2 {p q:Prop} (k:q) (h:HidM q→p:=by intro zk;refine ol_pull1 ?_;exact zk.h):p:=h ⟨k⟩
theorem Z7j {p q:Prop} (k:q) (h:HidM q→p:=by intro zk;refine rg_q (wn_none rfl) (op_aidx0 _ a1_35 rfl rfl rfl (by omega)) rfl rfl ?_;exact zk.h):p:=h ⟨k⟩
theorem Z0 {p:Prop} (h:p:=by repeat (first | exact kept_over | refine kept_upd rfl ?_ | refine kept_overS (by decide) ?_)):p:=h
theorem Z4a {p q:Prop} (k:q) (h:HidM q→p:=by intro zk;refine ol_skip (wn_undef rfl rfl rfl rfl) rfl ?_;exact zk.h):p:=h ⟨k⟩
theorem Z8w {p:Prop} (h:p:=by exact px_ret1 rfl (v:=.bool _) rfl (fun _ s=>((s.del 1).del 0)) ⟨congrArg Value.bool (by unfold befI;simp_all),rfl⟩):p:=h
theorem Z3s {p q:Prop} (k:q) (h:HidM q→p:=by intro zk;refine ol_skip (wn_some rfl rfl rfl hb2 rfl) rfl ?_;exact zk.h):p:=h ⟨k⟩
theorem Z4q {p:Prop} (h:p:=by exact px_ret1 rfl (v:=.bool _) rfl (fun _ s=>(s.del 0)) ⟨rfl,rfl⟩):p:=h
theorem Z4r {p q:Prop} (k:q) (h:HidM q→p:=by intro zk;refine oq (op_move (v:=.func _ _ _) rfl) ?_;exact zk.h):p:=h ⟨k⟩
theorem Z7k {p q:Prop} (k:q) (h:HidM q→p:=by intro zk;refine e_q 0 rfl (wn_none rfl) (op_move (v:=.slice _ _ _) rfl) ?_;exact zk.h):p:=h ⟨k⟩
theorem Z4s {p q:Prop} (k:q) (h:HidM q→p:=by intro zk;refine e_q 1 rfl (wn_none rfl) (op_move (v:=.int _ _) rfl) ?_;exact zk.h):p:=h ⟨k⟩
theorem Z6h {p q:Prop} (k:q) (h:HidM q→p:=by intro zk;refine e_q 3 rfl (wn_none rfl) (op_move (v:=.int _ _) rfl) ?_;exact zk.h):p:=h ⟨k⟩
theorem Z59 {p q:Prop} (k:q) (h:HidM q→p:=by intro zk;refine e_q 5 rfl (wn_none rfl) (op_move (v:=.int _ _) rfl) ?_;exact zk.h):p:=h ⟨k⟩
theorem Z2q {p q:Prop} (k:q) (h:HidM q→p:=by intro zk;refine ei_i rfl rfl (wn_none rfl) (os_q (op_index _ sB_184 rfl rfl rfl (rds_row 0 rfl rfl) rfl (by omega))) rfl ?_;rintro _ _ ⟨rfl,rfl⟩;refine ⟨[_],rfl,?_⟩;exact zk.h):p:=h ⟨k⟩
theorem Z2r {p q:Prop} (k:q) (h:HidM q→p:=by intro zk;refine ei_i rfl rfl (wn_none rfl) (os_q (op_ldaw (L:=pItemC _) ag_159 (rds_row 0 rfl rfl) rfl (by omega) rfl (pItemC_ta _))) rfl ?_;rintro _ _ ⟨rfl,rfl⟩;refine ⟨[_],rfl,?_⟩;exact zk.h):p:=h ⟨k⟩
theorem Z1c {p q:Prop} (k:q) (h:HidM q→p:=by intro zk;refine et_1 (i:=10) (by kernel_rfl) ?_;exact zk.h):p:=h ⟨k⟩
theorem Z2b {p q:Prop} (k:q) (h:HidM q→p:=by intro zk;refine et_1 (i:=11) (by kernel_rfl) ?_;exact zk.h):p:=h ⟨k⟩
theorem Zj {p q:Prop} (k:q) (h:HidM q→p:=by intro zk;refine et_1 (i:=12) (by kernel_rfl) ?_;exact zk.h):p:=h ⟨k⟩
theorem Z1a {p q:Prop} (k:q) (h:HidM q→p:=by intro zk;refine et_1 (i:=13) (by kernel_rfl) ?_;exact zk.h):p:=h ⟨k⟩
theorem Z5a {p q:Prop} (k:q) (h:HidM q→p:=by intro zk;refine ei_iN rfl rfl (wn_none rfl) (os_staw ag_159 rfl rfl rfl rfl (by omega) rfl) ?_;rintro _ _ ⟨rfl,rfl⟩;refine ⟨[_],rfl,?_⟩;exact zk.h):p:=h ⟨k⟩
theorem Z3h {p q:Prop} (k:q) (h:HidM q→p:=by intro zk;refine et_1 (i:=14) (by kernel_rfl) ?_;exact zk.h):p:=h ⟨k⟩
theorem Z5b {p q:Prop} (k:q) (h:HidM q→p:=by intro zk;refine ei_i rfl rfl (wn_none rfl) (os_q (op_index _ sB_184 rfl rfl rfl (rds_row 0 rfl rfl) (by rw [List.length_set]) (by rw [List.length_set];omega))) rfl ?_;rintro _ _ ⟨rfl,rfl⟩;refine ⟨[_],rfl,?_⟩;exact zk.h):p:=h ⟨k⟩
theorem Z2s {p q:Prop} (k:q) (h:HidM q→p:=by intro zk;refine et_1 (i:=15) (by kernel_rfl) ?_;exact zk.h):p:=h ⟨k⟩
theorem Z5c {p q:Prop} (k:q) (h:HidM q→p:=by intro zk;refine ei_iN rfl rfl (wn_none rfl) (os_staw ag_159 rfl rfl rfl rfl (by rw [List.length_set];omega) rfl) ?_;rintro _ _ ⟨rfl,rfl⟩;refine ⟨[_],rfl,?_⟩;exact zk.h):p:=h ⟨k⟩
theorem Z2t {p q:Prop} (k:q) (h:HidM q→p:=by intro zk;refine et_nil (by kernel_rfl) ?_;exact zk.h):p:=h ⟨k⟩
theorem Z5d {p:Prop} (h:p:=by exact px_end0 rfl (fun _ s=>s) ⟨rfl,rfl⟩):p:=h
theorem Z2c {p q0 q1:Prop} (k0:q0) (k1:q1) (h:HidM q0→HidM q1→p:=by intro zk0 zk1;refine et_2 (i1:=7) (i2:=11) (by kernel_rfl) ?_ ?_;exact zk0.h;exact zk1.h):p:=h ⟨k0⟩ ⟨k1⟩
theorem Zc {p q:Prop} (k:q) (h:HidM q→p:=by intro zk;refine et_1 (i:=7) (by kernel_rfl) ?_;exact zk.h):p:=h ⟨k⟩
theorem Zs {p q:Prop} (k:q) (h:HidM q→p:=by intro zk;refine et_1 (i:=6) (by kernel_rfl) ?_;exact zk.h):p:=h ⟨k⟩
theorem Z4t {p q:Prop} (k:q) (h:HidM q→p:=by intro zk;refine e_q 0 rfl (wn_none rfl) (op_move (v:=.pointer _) rfl) ?_;exact zk.h):p:=h ⟨k⟩
theorem Z7l {p q:Prop} (k:q) (h:HidM q→p:=by intro zk;refine e_q 1 rfl (wn_none rfl) (op_move (v:=.pointer _) rfl) ?_;exact zk.h):p:=h ⟨k⟩
theorem Zaa {a0:Sort _} {a1:∀ (zz0:a0),Sort _} {q:∀ (zz0:a0) (zz1:a1 zz0),Prop} {p:Prop} (k:∀ (zz0:a0) (zz1:a1 zz0),q zz0 zz1) (h:HidM (∀ (zz0:a0) (zz1:a1 zz0),q zz0 zz1)→p:=by intro zk;refine ei_i rfl rfl (wn_none rfl) (os_pull2 (os_append (E:=encPItem) rfl sB_184 zv_159 rfl rfl rfl (fun w s=>(rds_row 1 rfl rfl) [] w s) rfl (by simp;omega) (by unfold maxLen;simp;omega))) rfl ?_;rintro _ _ ⟨zz0,zz1,rfl,rfl⟩;refine ⟨[_,_,_],rfl,?_⟩;exact zk.h zz0 zz1):p:=h ⟨k⟩
theorem Z15 {p q:Prop} (k:q) (h:HidM q→p:=by intro zk;refine et_1 (i:=9) (by kernel_rfl) ?_;exact zk.h):p:=h ⟨k⟩
theorem Zab {p q:Prop} (k:q) (h:HidM q→p:=by intro zk;refine ei_iN rfl rfl (wn_none rfl) (os_pull2 (os_store (v:=.slice _ _ _) sc_184 rfl rfl rfl rfl (Free.zero _) rfl)) ?_;rintro _ _ ⟨rfl,rfl⟩;refine ⟨[_,_,_],rfl,?_⟩;exact zk.h):p:=h ⟨k⟩
theorem Z3t {p q:Prop} (k:q) (h:HidM q→p:=by intro zk;refine et_1 (i:=3) (by kernel_rfl) ?_;exact zk.h):p:=h ⟨k⟩
theorem Z35 {p q:Prop} (k:q) (h:HidM q→p:=by intro zk;refine cd_cond_t rfl rfl ?_;exact zk.h):p:=h ⟨k⟩
theorem Z6i {p q:Prop} (k:q) (h:HidM q→p:=by intro zk;refine ol_q (wn_some rfl rfl rfl hb1 rfl) (op_not rfl) rfl ?_;exact zk.h):p:=h ⟨k⟩
theorem Z2i {p q:Prop} (k:q) (h:HidM q→p:=by intro zk;refine oq (op_move (v:=_) rfl) ?_;exact zk.h):p:=h ⟨k⟩
theorem Z7m {p q:Prop} (k:q) (h:HidM q→p:=by intro zk;refine oi (os_invV 1 me_227_Swap Tryz.underlying227 sc_184 cb_276 rfl rfl rfl rfl (fun w s=>LSwap_calls _ _ _ _ _  s (by omega) (by omega))) ?_;rintro _ _ ⟨rfl,rfl⟩;exact zk.h):p:=h ⟨k⟩
theorem Z6j {p:Prop} (h:p:=by exact px_ret1 rfl (v:=.bool _) rfl (fun _ s=>s) ⟨_,d2,hpm,rfl,rfl⟩):p:=h
theorem Z5e {p q:Prop} (k:q) (h:HidM q→p:=by intro zk;refine ol_q (wn_some rfl rfl rfl hb1 rfl) (op_lt rfl rfl) rfl ?_;exact zk.h):p:=h ⟨k⟩
theorem Z25 {p q:Prop} (k:q) (h:HidM q→p:=by intro zk;refine oq (op_pick_t (v:=.bool _) rfl hb3 rfl) ?_;exact zk.h):p:=h ⟨k⟩
theorem Z8x {p q:Prop} (k:q) (h:HidM q→p:=by intro zk;refine oi (os_invV 0 me_227_Less Tryz.underlying227 sc_184 cb_275 rfl rfl rfl rfl (fun w s=>LLess_calls _ _ _ _ _  s (by omega) (by omega) (rds_row 1 rfl rfl))) ?_;rintro _ _ ⟨rfl,rfl⟩;exact zk.h):p:=h ⟨k⟩
theorem Zac {p q:Prop} (k:q) (h:HidM q→p:=by intro zk;refine px_loop2 (2*i+1,swpI d2 i (2*i+1)) ⟨by (try dsimp only);omega,(swpI_perm d2 (by omega) (by omega)).trans hpm⟩ (by (try dsimp only);omega) ⟨rfl,trivial⟩ ?_ (fun _ s=>(by (try dsimp only);rw [swpI_len];exact (s.pull 1)));exact zk.h):p:=h ⟨k⟩
theorem Z4u {p q:Prop} (k:q) (h:HidM q→p:=by intro zk;refine ol_skip (wn_some rfl rfl rfl hb3 rfl) rfl ?_;exact zk.h):p:=h ⟨k⟩
theorem Z6k {p:Prop} (h:p:=by exact absurd (of_decide_eq_false hb1) (by omega)):p:=h
theorem Z5f {p q:Prop} (k:q) (h:HidM q→p:=by intro zk;refine oq (op_assign (v:=.func _ _ _) rfl) ?_;exact zk.h):p:=h ⟨k⟩
theorem Zad {p q:Prop} (k:q) (h:HidM q→p:=by intro zk;refine ol_i (wn_some rfl rfl rfl rfl rfl) (os_callv (C:=[]) (vs:=[_,_]) cb_99 rfl rfl (fun w s=>PeIn_calls (top:=1048576) _  s (by omega))) rfl ?_;rintro _ _ ⟨rfl,rfl⟩;exact zk.h):p:=h ⟨k⟩
theorem Z6l {p q:Prop} (k:q) (h:HidM q→p:=by intro zk;refine ol_q (wn_some rfl rfl rfl rfl rfl) (op_not rfl) rfl ?_;exact zk.h):p:=h ⟨k⟩
theorem Z8y {p:Prop} (h:p:=by exact px_ret1 rfl (v:=.int _ _) rfl (fun _ s=>((s.del 1).del 0)) ⟨congrArg (Value.int .i64) (by unfold cmpI;simp_all),rfl⟩):p:=h
theorem Z8z {p:Prop} (h:p:=by exact px_ret1 rfl (v:=.slice _ _ _) rfl (fun _ s=>s) ⟨_,_,rfl,rfl⟩):p:=h
theorem Z4v {p q:Prop} (k:q) (h:HidM q→p:=by intro zk;refine ol_skip (wn_some rfl rfl rfl rfl rfl) rfl ?_;exact zk.h):p:=h ⟨k⟩
theorem Z7n {p:Prop} (h:p:=by exact px_ret2 rfl (v1:=.pointer _) (v2:=.int _ _) rfl rfl (fun _ s=>(s.del 0)) (.inl ⟨rfl,rfl,by omega⟩)):p:=h
theorem Z1w {p q:Prop} (k:q) (h:HidM q→p:=by intro zk;refine oq (op_pick_t (v:=.bool _) rfl hb2 rfl) ?_;exact zk.h):p:=h ⟨k⟩
theorem Z7o {p q:Prop} (k:q) (h:HidM q→p:=by intro zk;refine e_q 8 rfl (wn_none rfl) (op_move (v:=.int _ _) rfl) ?_;exact zk.h):p:=h ⟨k⟩
theorem Z1d {p q:Prop} (k:q) (h:HidM q→p:=by intro zk;refine et_1 (i:=4) (by kernel_rfl) ?_;exact zk.h):p:=h ⟨k⟩
theorem Z90 {p q:Prop} (k:q) (h:HidM q→p:=by intro zk;refine e_q 9 rfl (wn_none rfl) (op_build (L:=[_,_,_]) (vs:=[(0,.slice _ _ _),(1,.map _),(2,.int _ _)]) bB_108 rfl ⟨⟨rfl,rfl⟩,⟨rfl,rfl⟩,⟨rfl,rfl⟩,trivial⟩ rfl) ?_;exact zk.h):p:=h ⟨k⟩
theorem Z4b {p q:Prop} (k:q) (h:HidM q→p:=by intro zk;refine et_nil_then (by kernel_rfl) ?_;exact zk.h):p:=h ⟨k⟩
theorem Zae {p:Prop} (h:p:=by exact px_ret2 rfl (v1:=.pointer _) (v2:=.int _ _) (l':=TreeObj _ (TreeS.new r slot most)::l) rfl rfl (fun _ s=>Sat.treeMk (t:=TreeS.new r slot most) (TreeS.WF.new (by omega) (by omega) (by omega) (by omega)) rfl (s.arr 4 [0,2,1])) (.inr ⟨_,rfl,by omega,rfl⟩)):p:=h
theorem Z6m {p q:Prop} (k:q) (h:HidM q→p:=by intro zk;refine oq (op_eqnil Tryz.underlying53 rfl rfl) ?_;exact zk.h):p:=h ⟨k⟩
theorem Zaf {p:Prop} (h:p:=by exact px_ret1 rfl (v:=.int _ _) (l':=TreeObj p t::l) rfl (fun _ s=>Sat.treeMk hw rfl (s.del 0)) ⟨congrArg (Value.int .i64) (by unfold TreeS.place;rw [hlk]),rfl⟩):p:=h
theorem Z3u {a0:Sort _} {q:∀ (zz0:a0),Prop} {p:Prop} (k:∀ (zz0:a0),q zz0) (h:HidM (∀ (zz0:a0),q zz0)→p:=by intro zk;refine oi (os_alloc (cs:=(nodeC Node.zero).toArray) zB_169 (by kernel_rfl)) ?_;rintro _ _ ⟨zz0,rfl,rfl⟩;exact zk.h zz0):p:=h ⟨k⟩
theorem Z36 {p q:Prop} (k:q) (h:HidM q→p:=by intro zk;refine oN (os_storew (nodeC _) ag_169 rfl rfl (nodeC_len _) (nodeC_one _) (by simp [nodeC_len]) (Free.zero _)) ?_;rintro _ _ ⟨rfl,rfl⟩;exact zk.h):p:=h ⟨k⟩
theorem Z91 {p:Prop} (h:p:=by exact px_rv2 rfl (rv_cella 0 ag_169 rfl rfl (nodeC_ta _) (by simp [nodeC_len])) (rv_tmp (v:=.bool _) rfl) (fun _ s=>Sat.treeMk hw rfl (s.del 0)) ⟨rfl,rfl⟩):p:=h
theorem Z7 {p q:Prop} (k:q) (h:HidM q→p:=by intro zk;refine ol_pull2 ?_;exact zk.h):p:=h ⟨k⟩
theorem Z92 {p q:Prop} (k:q) (h:HidM q→p:=by intro zk;refine oi (os_call cb_75 rfl (fun w s=>Node_calls _ _ _  s )) ?_;rintro _ _ ⟨rfl,rfl⟩;exact zk.h):p:=h ⟨k⟩
theorem Z6n {p:Prop} (h:p:=by exact px_ret1 rfl (v:=.int _ _) (l':=TreeObj p t::l) rfl (fun _ s=>(((s.del 3).del 2).del 1)) ⟨rfl,rfl⟩):p:=h
theorem Z7p {p q:Prop} (k:q) (h:HidM q→p:=by intro zk;refine ol_q (wn_some rfl rfl rfl hb2 rfl) (op_ge rfl rfl) rfl ?_;exact zk.h):p:=h ⟨k⟩
theorem Zg {p q:Prop} (k:q) (h:HidM q→p:=by intro zk;refine ol_pull3 ?_;exact zk.h):p:=h ⟨k⟩
theorem Z26 {p q:Prop} (k:q) (h:HidM q→p:=by intro zk;refine rg_skip (wn_some rfl rfl rfl hb1 rfl) rfl ?_;exact zk.h):p:=h ⟨k⟩
theorem Z7q {p q:Prop} (k:q) (h:HidM q→p:=by intro zk;refine rg_skip (wn_some rfl rfl rfl hb2 rfl) rfl ?_;exact zk.h):p:=h ⟨k⟩
theorem Z7r {p q:Prop} (k:q) (h:HidM q→p:=by intro zk;refine rg_q (wn_none rfl) (op_pick_t (v:=.bool _) rfl hb2 rfl) rfl rfl ?_;exact zk.h):p:=h ⟨k⟩
theorem Z6o {p q:Prop} (k:q) (h:HidM q→p:=by intro zk;refine oq (op_len_slice Tryz.underlying161 rfl) ?_;exact zk.h):p:=h ⟨k⟩
theorem Z7s {a0:Sort _} {q:∀ (zz0:a0),Prop} {p:Prop} (k:∀ (zz0:a0),q zz0) (h:HidM (∀ (zz0:a0),q zz0)→p:=by intro zk;refine oi (os_alloc (cs:=(pItemC PItem.zero).toArray) zB_159 (by kernel_rfl)) ?_;rintro _ _ ⟨zz0,rfl,rfl⟩;exact zk.h zz0):p:=h ⟨k⟩
theorem Z7t {p q:Prop} (k:q) (h:HidM q→p:=by intro zk;refine oN (os_storew (pItemC _) ag_159 rfl rfl (pItemC_len _) (pItemC_one _) (by simp [pItemC_len]) (Free.zero _)) ?_;rintro _ _ ⟨rfl,rfl⟩;exact zk.h):p:=h ⟨k⟩
theorem Zag {p q:Prop} (k:q) (h:HidM q→p:=by intro zk;refine px_loop2 (i+1) (by omega) (by (try dsimp only);omega) ⟨congrArg (Value.int .i64) (by rw [hc]),congrArg (Value.int .i64) (by simp),trivial⟩ ?_ (fun _ s=>(s.del 0));exact zk.h):p:=h ⟨k⟩
theorem Z5g {p:Prop} (h:p:=by exact absurd (of_decide_eq_true hb2) (by omega)):p:=h
theorem Z7u {p q:Prop} (k:q) (h:HidM q→p:=by intro zk;refine cd_imp (fun _ s=>Sat.rowNil (E:=encPItem) (e:=159) s) ?_;exact zk.h):p:=h ⟨k⟩
theorem Z27 {p q:Prop} (k:q) (h:HidM q→p:=by intro zk;refine oq (op_len_string Tryz.underlying9 rfl) ?_;exact zk.h):p:=h ⟨k⟩
theorem Z93 {p q:Prop} (k:q) (h:HidM q→p:=by intro zk;refine oN (os_store (v:=.bool _) sc_4 rfl rfl rfl rfl (Free.zero _) rfl) ?_;rintro _ _ ⟨rfl,rfl⟩;exact zk.h):p:=h ⟨k⟩
theorem Z7v {p q:Prop} (k:q) (h:HidM q→p:=by intro zk;refine oN (os_store (v:=.string _) sc_9 rfl rfl rfl rfl (Free.zero _) rfl) ?_;rintro _ _ ⟨rfl,rfl⟩;exact zk.h):p:=h ⟨k⟩
theorem Z7w {p:Prop} (h:p:=by exact px_ret1 rfl (v:=.string _) rfl (fun _ s=>s) ⟨by simp [rdBytes, *]<;>rfl,by simp [rdBytes,RdObj, *]<;>rfl⟩):p:=h
theorem Z94 {p q:Prop} (k:q) (h:HidM q→p:=by intro zk;refine ol_q (wn_some rfl rfl rfl hb2 rfl) (op_len_string Tryz.underlying9 rfl) rfl ?_;exact zk.h):p:=h ⟨k⟩
theorem Z4w {a0:Sort _} {q:∀ (zz0:a0),Prop} {p:Prop} (k:∀ (zz0:a0),q zz0) (h:HidM (∀ (zz0:a0),q zz0)→p:=by intro zk;refine oi (os_bslice (E:=encU8) [_] (ys:=[_]) sB_97 zv_5 rfl rfl rfl rfl (by decide)) ?_;rintro _ _ ⟨zz0,rfl,rfl⟩;exact zk.h zz0):p:=h ⟨k⟩
theorem Z95 {p q:Prop} (k:q) (h:HidM q→p:=by intro zk;refine oi (os_call cb_117 rfl (fun w s=>Bytes_calls _ _ _  s )) ?_;rintro _ _ ⟨rfl,rfl⟩;exact zk.h):p:=h ⟨k⟩
theorem Zah {p q:Prop} (k:q) (h:HidM q→p:=by intro zk;refine cd_loop (α:=Nat) (fun j=>[(5,.string (B S)),(6,.int .u64 (leNat (S.drop j):Nat)),(7,.int .i64 ((j:Int)-1))]) (fun _=>_) (fun j=>j≤S.length) (fun j=>j) S.length (Nat.le_refl _) ⟨rfl,by rw [List.drop_length];rfl,rfl,trivial⟩ (fun _ s=>s) ?_;exact zk.h):p:=h ⟨k⟩
theorem Zai {p:Prop} (h:p:=by exact px_loop j (by omega) (by omega) ⟨rfl,congrArg (Value.int .u64) (congrArg (fun q:Nat=>(q:Int)) ((or_low _ _ hu).trans hd.symm)),congrArg (Value.int .i64) (by omega),trivial⟩ (fun _ s=>s)):p:=h
theorem Z4x {p q:Prop} (k:q) (h:HidM q→p:=by intro zk;refine e_q 0 rfl (wn_none rfl) (op_move (v:=.int _ _) rfl) ?_;exact zk.h):p:=h ⟨k⟩
theorem Z96 {p q:Prop} (k:q) (h:HidM q→p:=by intro zk;refine ei_i rfl rfl (wn_none rfl) (os_q (op_b2s sB_97 Tryz.underlying5 Tryz.underlying9 rfl (rds_row 0 rfl rfl) rfl)) rfl ?_;rintro _ _ ⟨rfl,rfl⟩;refine ⟨[_],rfl,?_⟩;exact zk.h):p:=h ⟨k⟩
theorem Zaj {p q:Prop} (k:q) (h:HidM q→p:=by intro zk;refine ei_i rfl rfl (wn_none rfl) (os_call cb_34 rfl (fun w s=>ih _ (by rw [←hk,clamp8_pred hp1];exact Nat.lt_succ_self _) _ _   s rfl (by omega))) rfl ?_;rintro _ _ ⟨rfl,rfl⟩;refine ⟨[_],rfl,?_⟩;exact zk.h):p:=h ⟨k⟩
theorem Z97 {p q:Prop} (k:q) (h:HidM q→p:=by intro zk;refine e_q 11 rfl (wn_none rfl) (op_sadd rfl rfl (by simp only [putB_length,List.length_cons,List.length_nil];have:=clamp8_le ((if 8<wd then 8 else wd)-1);omega)) ?_;exact zk.h):p:=h ⟨k⟩
theorem Z98 {p:Prop} (h:p:=by exact px_ret1 rfl (v:=.string _) rfl (fun _ s=>s.del 0) ⟨by rw [←hk,clamp8_pred hp1,putB_cons];rfl,rfl⟩):p:=h
theorem Z4c {p q:Prop} (k:q) (h:HidM q→p:=by intro zk;refine oq (op_len_slice Tryz.underlying97 rfl) ?_;exact zk.h):p:=h ⟨k⟩
theorem Z4d {p q:Prop} (k:q) (h:HidM q→p:=by intro zk;refine oq (op_len_slice Tryz.underlying42 rfl) ?_;exact zk.h):p:=h ⟨k⟩
theorem Z99 {p:Prop} (h:p:=by exact px_ret2 rfl (v1:=.slice none 0 0) (v2:=.bool false) rfl rfl (l':=Row 4 encBool (.slice none (getD' s most).length 0) (getD' s most)::l) (fun _ s'=>by rw [hG];exact s'.rowNil) ⟨none,0,by rw [hG,hE];rfl,rfl⟩):p:=h
theorem Z3v {p q:Prop} (k:q) (h:HidM q→p:=by intro zk;refine oq (op_mul rfl rfl (by omega) (by omega)) ?_;exact zk.h):p:=h ⟨k⟩
theorem Zak {p:Prop} (h:p:=by exact px_ret1 rfl (v:=.bool _) rfl (fun _ s=>s) ⟨congrArg Value.bool (by unfold inR;dsimp only;symm;first | exact decide_eq_true ⟨by omega,by omega⟩ | exact decide_eq_false (by omega) | (rw [Bool.eq_iff_iff];simp;omega)),rfl⟩):p:=h
theorem Z9a {p:Prop} (h:p:=by exact px_ret1 rfl (v:=.bool _) rfl (fun _ s=>(s.del 0)) ⟨congrArg Value.bool (by unfold valOK;(try unfold inR);rw [Bool.eq_iff_iff];simp;omega),rfl⟩):p:=h
theorem Z2d {p q:Prop} (k:q) (h:HidM q→p:=by intro zk;refine oq (op_len_slice Tryz.underlying22 rfl) ?_;exact zk.h):p:=h ⟨k⟩
theorem Z5h {a0:Sort _} {q:∀ (zz0:a0),Prop} {p:Prop} (k:∀ (zz0:a0),q zz0) (h:HidM (∀ (zz0:a0),q zz0)→p:=by intro zk;refine oi (os_alloc (cs:=(valC Val.zero).toArray) zB_64 (by kernel_rfl)) ?_;rintro _ _ ⟨zz0,rfl,rfl⟩;exact zk.h zz0):p:=h ⟨k⟩
theorem Z5i {p q:Prop} (k:q) (h:HidM q→p:=by intro zk;refine oN (os_storew (valC _) ag_64 rfl rfl (valC_len _) (valC_one _) (by simp [valC_len]) (Free.zero _)) ?_;rintro _ _ ⟨rfl,rfl⟩;exact zk.h):p:=h ⟨k⟩
theorem Z5j {p:Prop} (h:p:=by exact px_ret2 rfl (v1:=.int _ _) (v2:=.bool _) rfl rfl (fun _ s=>(s.del 0)) ⟨rfl,rfl⟩):p:=h
theorem Z5k {p q:Prop} (k:q) (h:HidM q→p:=by intro zk;refine oq (op_ld 0 sc_3 rfl rfl (show (msgC _).toArray[1]? = some (.int .i64 sl) from msgC_a1 _)) ?_;exact zk.h):p:=h ⟨k⟩
theorem Z16 {p:Prop} (h:p:=by exact px_ret1 rfl (v:=.bool _) rfl (fun _ s=>(s.del 0)) ⟨congrArg Value.bool (by unfold goodW;cases hcb:bits.contains true<;>(simp only [hcb,Bool.false_eq_true,and_false,false_or,and_true];first | (symm;exact decide_eq_true (by omega)) | (symm;exact decide_eq_false (by omega)) | exact decide_eq_decide.2 (by omega))),rfl⟩):p:=h
theorem Z28 {p q:Prop} (k:q) (h:HidM q→p:=by intro zk;refine ol_skip (wn_some rfl rfl rfl hb4 rfl) rfl ?_;exact zk.h):p:=h ⟨k⟩
theorem Z3w {p q:Prop} (k:q) (h:HidM q→p:=by intro zk;refine oq (op_ld 0 sc_3 rfl rfl (show (msgC _).toArray[0]? = some (.int .i64 k) from msgC_a0 _)) ?_;exact zk.h):p:=h ⟨k⟩
theorem Z3i {p q:Prop} (k:q) (h:HidM q→p:=by intro zk;refine oq (op_ld 0 sc_3 rfl rfl (show (msgC _).toArray[34]? = some (.int .i64 mb) from msgC_a34 _)) ?_;exact zk.h):p:=h ⟨k⟩
theorem Z5l {p q:Prop} (k:q) (h:HidM q→p:=by intro zk;refine ol_skip (wn_some rfl rfl rfl hb9 rfl) rfl ?_;exact zk.h):p:=h ⟨k⟩
theorem Z5m {p q:Prop} (k:q) (h:HidM q→p:=by intro zk;refine ol_skip (wn_some rfl rfl rfl hb10 rfl) rfl ?_;exact zk.h):p:=h ⟨k⟩
theorem Z37 {p q:Prop} (k:q) (h:HidM q→p:=by intro zk;refine ol_skip (wn_some rfl rfl rfl hb11 rfl) rfl ?_;exact zk.h):p:=h ⟨k⟩
theorem Z1p {p q:Prop} (k:q) (h:HidM q→p:=by intro zk;refine ol_skip (wn_some rfl rfl rfl hb5 rfl) rfl ?_;exact zk.h):p:=h ⟨k⟩
theorem Z5n {p q:Prop} (k:q) (h:HidM q→p:=by intro zk;refine ol_skip (wn_some rfl rfl rfl hb14 rfl) rfl ?_;exact zk.h):p:=h ⟨k⟩
theorem Z38 {p q:Prop} (k:q) (h:HidM q→p:=by intro zk;refine ol_skip (wn_some rfl rfl rfl hb13 rfl) rfl ?_;exact zk.h):p:=h ⟨k⟩
theorem Z6p {p q:Prop} (k:q) (h:HidM q→p:=by intro zk;refine oq (op_pick_t (v:=.bool _) rfl hb5 rfl) ?_;exact zk.h):p:=h ⟨k⟩
theorem Z7x {p q:Prop} (k:q) (h:HidM q→p:=by intro zk;refine oq (op_ld 0 sc_42 rfl rfl (show (msgC _).toArray[36]? = some (.slice bo bits.length bc) from msgC_a36 _)) ?_;exact zk.h):p:=h ⟨k⟩
theorem Zal {p q:Prop} (k:q) (h:HidM q→p:=by intro zk;refine px_loop2 (i+1) (by omega) (by (try dsimp only);omega) ⟨congrArg (Value.int .i64) (by omega),congrArg (Value.int .i64) (by simp),trivial⟩ ?_ (fun _ s=>s);exact zk.h):p:=h ⟨k⟩
theorem Z3j {p q:Prop} (k:q) (h:HidM q→p:=by intro zk;refine oq (op_conv64i Tryz.underlying41 (by rw [Tryz.underlying3];rfl) rfl) ?_;exact zk.h):p:=h ⟨k⟩
theorem Z4e {p q:Prop} (k:q) (h:HidM q→p:=by intro zk;refine oq (op_ld 1 sc_3 rfl rfl (show (msgC _).toArray[0]? = some (.int .i64 k) from msgC_a0 _)) ?_;exact zk.h):p:=h ⟨k⟩
theorem Z9b {p q:Prop} (k:q) (h:HidM q→p:=by intro zk;refine rg_q (wn_none rfl) (op_conv64i Tryz.underlying41 (by rw [Tryz.underlying3];rfl) rfl) rfl rfl ?_;exact zk.h):p:=h ⟨k⟩
theorem Z2j {p q:Prop} (k:q) (h:HidM q→p:=by intro zk;refine oq (op_b2s sB_97 Tryz.underlying5 Tryz.underlying9 rfl (rds_row 0 rfl rfl) rfl) ?_;exact zk.h):p:=h ⟨k⟩
theorem Z7y {p q:Prop} (k:q) (h:HidM q→p:=by intro zk;refine oq (op_ld 1 sc_3 rfl rfl (show (msgC _).toArray[34]? = some (.int .i64 mb) from msgC_a34 _)) ?_;exact zk.h):p:=h ⟨k⟩
theorem Z7z {p q:Prop} (k:q) (h:HidM q→p:=by intro zk;refine oq (op_ld 1 sc_42 rfl rfl (show (msgC _).toArray[36]? = some (.slice bo bits.length bc) from msgC_a36 _)) ?_;exact zk.h):p:=h ⟨k⟩
theorem Z3x {a0:Sort _} {q:∀ (zz0:a0),Prop} {p:Prop} (k:∀ (zz0:a0),q zz0) (h:HidM (∀ (zz0:a0),q zz0)→p:=by intro zk;refine oi (os_alloc (cs:=(msgC Msg.zero).toArray) zB_46 (by kernel_rfl)) ?_;rintro _ _ ⟨zz0,rfl,rfl⟩;exact zk.h zz0):p:=h ⟨k⟩
theorem Z6q {p q:Prop} (k:q) (h:HidM q→p:=by intro zk;refine oq (op_convint Tryz.underlying3 (by rw [Tryz.underlying41];rfl) rfl (by omega)) ?_;exact zk.h):p:=h ⟨k⟩
theorem Z17 {p q:Prop} (k:q) (h:HidM q→p:=by intro zk;refine oN (os_storew (msgC _) ag_46 rfl rfl (msgC_len _) (msgC_one _) (by simp [msgC_len]) (Free.zero _)) ?_;rintro _ _ ⟨rfl,rfl⟩;exact zk.h):p:=h ⟨k⟩
theorem Z6r {p q:Prop} (k:q) (h:HidM q→p:=by intro zk;refine cd_drawt (M:=[_]) mx [3] 4 (by kernel_rfl) rfl rfl ?_;exact zk.h):p:=h ⟨k⟩
theorem Z6s {p q:Prop} (k:q) (h:HidM q→p:=by intro zk;refine rg_q (wn_none rfl) (op_slicea_all a1_44 rfl) rfl rfl ?_;exact zk.h):p:=h ⟨k⟩
theorem Z80 {p q:Prop} (k:q) (h:HidM q→p:=by intro zk;refine rg_i (wn_none rfl) (os_call cb_117 rfl (fun w s=>Bytes_calls (n:=16) _ _  s )) rfl rfl ?_;rintro _ _ ⟨rfl,rfl⟩;refine ⟨[_],rfl,?_⟩;exact zk.h):p:=h ⟨k⟩
theorem Z81 {p q:Prop} (k:q) (h:HidM q→p:=by intro zk;refine oi (os_copyf (r:=(_:Tag).1) _ (msgC _) 97 rfl s1_97 rfl rfl (tag_len _) (msgC_af37 _) (by simp [msgC_len]) (Free.zero _) (msgC_p37 _ (Tag.over _ _))) ?_;rintro _ _ ⟨rfl,rfl⟩;exact zk.h):p:=h ⟨k⟩
theorem Z82 {p q:Prop} (k:q) (h:HidM q→p:=by intro zk;refine oi (os_call cb_120 rfl (fun w s=>End_calls _ _  s )) ?_;rintro _ _ ⟨rfl,rfl⟩;exact zk.h):p:=h ⟨k⟩
theorem Z3k {p q:Prop} (k:q) (h:HidM q→p:=by intro zk;refine oq (op_build (L:=msgC _) (vs:=[]) bB_46 rfl trivial rfl) ?_;exact zk.h):p:=h ⟨k⟩
theorem Z3y {p:Prop} (h:p:=by exact px_rv2 rfl (rv_cella 0 ag_46 rfl rfl (msgC_ta _) (by simp [msgC_len])) (rv_tmp rfl) (fun _ s=>Sat.rowNil (((s.del 2).del 1).del 0)) ⟨none,0,by rw [hd];rfl,by rw [hd];rfl⟩):p:=h
theorem Z9c {p:Prop} (h:p:=by exact px_rv2 rfl (rv_cella 0 ag_46 rfl rfl (msgC_ta _) (by simp [msgC_len])) (rv_tmp rfl) (fun _ s=>Sat.rowNil (s.arr 4 [])) ⟨none,0,by rw [hd];rfl,by rw [hd];rfl⟩):p:=h
theorem Z9d {a0:Sort _} {q:∀ (zz0:a0),Prop} {p:Prop} (k:∀ (zz0:a0),q zz0) (h:HidM (∀ (zz0:a0),q zz0)→p:=by intro zk;refine oi (os_alloc (cs:=(wC (List.replicate 8 0)).toArray) zB_146 (by kernel_rfl)) ?_;rintro _ _ ⟨zz0,rfl,rfl⟩;exact zk.h zz0):p:=h ⟨k⟩
theorem Z6t {a0:Sort _} {q:∀ (zz0:a0),Prop} {p:Prop} (k:∀ (zz0:a0),q zz0) (h:HidM (∀ (zz0:a0),q zz0)→p:=by intro zk;refine oi (os_alloc (cs:=(wC (List.replicate 64 0)).toArray) zB_150 (by kernel_rfl)) ?_;rintro _ _ ⟨zz0,rfl,rfl⟩;exact zk.h zz0):p:=h ⟨k⟩
theorem Z6u {p q:Prop} (k:q) (h:HidM q→p:=by intro zk;refine rg_q (wn_none rfl) (op_mul rfl rfl (by omega) (by omega)) rfl rfl ?_;exact zk.h):p:=h ⟨k⟩
theorem Z83 {p q:Prop} (k:q) (h:HidM q→p:=by intro zk;refine rg_q (wn_none rfl) (op_ldw sc_5 ((hr.cons _).cons _) rfl (by omega) rfl) rfl rfl ?_;exact zk.h):p:=h ⟨k⟩
theorem Z6v {p q:Prop} (k:q) (h:HidM q→p:=by intro zk;refine rg_q (wn_none rfl) (op_conv32 Tryz.underlying145 (by rw [Tryz.underlying5];rfl) rfl) rfl rfl ?_;exact zk.h):p:=h ⟨k⟩
theorem Z84 {p q:Prop} (k:q) (h:HidM q→p:=by intro zk;refine rg_q (wn_none rfl) (op_ld 0 sc_145 rfl rfl (fillA_at (by rw [hml];omega))) rfl rfl ?_;exact zk.h):p:=h ⟨k⟩
theorem Zd {p q:Prop} (k:q) (h:HidM q→p:=by intro zk;refine ei_i rfl rfl (wn_none rfl) (os_q (op_ld 0 sc_145 rfl rfl (fillA_at (by rw [hml];omega)))) rfl ?_;rintro _ _ ⟨rfl,rfl⟩;refine ⟨[_],rfl,?_⟩;exact zk.h):p:=h ⟨k⟩
theorem Z6w {p q:Prop} (k:q) (h:HidM q→p:=by intro zk;refine ei_i rfl rfl (wn_none rfl) (os_call cb_223 rfl (fun w s=>turn_calls (k:=7) _  s (by decide) (by decide))) rfl ?_;rintro _ _ ⟨rfl,rfl⟩;refine ⟨[_],rfl,?_⟩;exact zk.h):p:=h ⟨k⟩
theorem Z3z {p q:Prop} (k:q) (h:HidM q→p:=by intro zk;refine e_q 13 rfl (wn_none rfl) (op_add32 _ _ rfl rfl) ?_;exact zk.h):p:=h ⟨k⟩
theorem Z1l {p q:Prop} (k:q) (h:HidM q→p:=by intro zk;refine e_q 18 rfl (wn_none rfl) (op_add32 _ _ rfl rfl) ?_;exact zk.h):p:=h ⟨k⟩
theorem Z4f {p q:Prop} (k:q) (h:HidM q→p:=by intro zk;refine ei_i rfl rfl (wn_none rfl) (os_call cb_223 rfl (fun w s=>turn_calls (k:=17) _  s (by decide) (by decide))) rfl ?_;rintro _ _ ⟨rfl,rfl⟩;refine ⟨[_],rfl,?_⟩;exact zk.h):p:=h ⟨k⟩
theorem Z3l {p q:Prop} (k:q) (h:HidM q→p:=by intro zk;refine ei_i rfl rfl (wn_none rfl) (os_call cb_223 rfl (fun w s=>turn_calls (k:=19) _  s (by decide) (by decide))) rfl ?_;rintro _ _ ⟨rfl,rfl⟩;refine ⟨[_],rfl,?_⟩;exact zk.h):p:=h ⟨k⟩
theorem Zw {p q:Prop} (k:q) (h:HidM q→p:=by intro zk;refine et_1 (i:=8) (by kernel_rfl) ?_;exact zk.h):p:=h ⟨k⟩
theorem Z5o {p q0 q1:Prop} (k0:q0) (k1:q1) (h:HidM q0→HidM q1→p:=by intro zk0 zk1;refine et_2 (i1:=4) (i2:=20) (by kernel_rfl) ?_ ?_;exact zk0.h;exact zk1.h):p:=h ⟨k0⟩ ⟨k1⟩
theorem Z4g {p q0 q1:Prop} (k0:q0) (k1:q1) (h:HidM q0→HidM q1→p:=by intro zk0 zk1;refine et_2 (i1:=4) (i2:=22) (by kernel_rfl) ?_ ?_;exact zk0.h;exact zk1.h):p:=h ⟨k0⟩ ⟨k1⟩
theorem Z5p {a0:Sort _} {q:∀ (zz0:a0),Prop} {p:Prop} (k:∀ (zz0:a0),q zz0) (h:HidM (∀ (zz0:a0),q zz0)→p:=by intro zk;refine ei_i rfl rfl (wn_none rfl) (os_alloc (cs:=(wC (List.replicate 64 0)).toArray) zB_150 (by kernel_rfl)) rfl ?_;rintro _ _ ⟨zz0,rfl,rfl⟩;refine ⟨[_],rfl,?_⟩;exact zk.h zz0):p:=h ⟨k⟩
theorem Zy {a0:Sort _} {q:∀ (zz0:a0),Prop} {p:Prop} (k:∀ (zz0:a0),q zz0) (h:HidM (∀ (zz0:a0),q zz0)→p:=by intro zk;refine ei_i rfl rfl (wn_none rfl) (os_alloc (cs:=(wC (List.replicate 64 0)).toArray) zB_150 (by kernel_rfl)) rfl ?_;rintro _ _ ⟨zz0,rfl,rfl⟩;refine ⟨[_,_],rfl,?_⟩;exact zk.h zz0):p:=h ⟨k⟩
theorem Z1f {a0:Sort _} {q:∀ (zz0:a0),Prop} {p:Prop} (k:∀ (zz0:a0),q zz0) (h:HidM (∀ (zz0:a0),q zz0)→p:=by intro zk;refine ei_i rfl rfl (wn_none rfl) (os_alloc (cs:=(wC (List.replicate 8 0)).toArray) zB_146 (by kernel_rfl)) rfl ?_;rintro _ _ ⟨zz0,rfl,rfl⟩;refine ⟨[_,_,_],rfl,?_⟩;exact zk.h zz0):p:=h ⟨k⟩
theorem Z1g {p q:Prop} (k:q) (h:HidM q→p:=by intro zk;refine ei_iN rfl rfl (wn_none rfl) (os_pull2 (os_storew (wC _) ag_150 rfl rfl (by rw [wC_len];exact layM_len bs) (wC_one _) (by simp [wC_len,w8C_len]) (Free.zero _))) ?_;rintro _ _ ⟨rfl,rfl⟩;refine ⟨[_,_,_],rfl,?_⟩;exact zk.h):p:=h ⟨k⟩
theorem Z1 {p:Prop} (h:p:=by repeat (first | exact kept_self | exact kept_over | refine kept_upd rfl ?_ | refine kept_overS (by decide) ?_)):p:=h
theorem Z2u {a0:Sort _} {q:∀ (zz0:a0),Prop} {p:Prop} (k:∀ (zz0:a0),q zz0) (h:HidM (∀ (zz0:a0),q zz0)→p:=by intro zk;refine ei_i rfl rfl (wn_none rfl) (os_alloc (cs:=(wC (List.replicate 8 0)).toArray) zB_146 (by kernel_rfl)) rfl ?_;rintro _ _ ⟨zz0,rfl,rfl⟩;refine ⟨[_,_],rfl,?_⟩;exact zk.h zz0):p:=h ⟨k⟩
theorem Z1x {a0:Sort _} {q:∀ (zz0:a0),Prop} {p:Prop} (k:∀ (zz0:a0),q zz0) (h:HidM (∀ (zz0:a0),q zz0)→p:=by intro zk;refine ei_i rfl rfl (wn_none rfl) (os_alloc (cs:=(wC (List.replicate 64 0)).toArray) zB_150 (by kernel_rfl)) rfl ?_;rintro _ _ ⟨zz0,rfl,rfl⟩;refine ⟨[_,_,_],rfl,?_⟩;exact zk.h zz0):p:=h ⟨k⟩
theorem Z1h {p q:Prop} (k:q) (h:HidM q→p:=by intro zk;refine ei_iN rfl rfl (wn_none rfl) (os_pull1 (os_storew (wC _) ag_150 rfl rfl (by rw [wC_len];exact layM_len bs) (wC_one _) (by simp [wC_len,w8C_len]) (Free.zero _))) ?_;rintro _ _ ⟨rfl,rfl⟩;refine ⟨[_,_,_],rfl,?_⟩;exact zk.h):p:=h ⟨k⟩
theorem Z1i {p q:Prop} (k:q) (h:HidM q→p:=by intro zk;refine ei_iN rfl rfl (wn_none rfl) (os_storew (wC _) ag_150 rfl rfl (by rw [wC_len];exact layM_len bs) (wC_one _) (by simp [wC_len,w8C_len]) (Free.zero _)) ?_;rintro _ _ ⟨rfl,rfl⟩;refine ⟨[_,_,_],rfl,?_⟩;exact zk.h):p:=h ⟨k⟩
theorem Z9e {a0:Sort _} {q:∀ (zz0:a0),Prop} {p:Prop} (k:∀ (zz0:a0),q zz0) (h:HidM (∀ (zz0:a0),q zz0)→p:=by intro zk;refine ei_i rfl rfl (wn_none rfl) (os_alloc (cs:=(wC (List.replicate 8 0)).toArray) zB_146 (by kernel_rfl)) rfl ?_;rintro _ _ ⟨zz0,rfl,rfl⟩;refine ⟨[_],rfl,?_⟩;exact zk.h zz0):p:=h ⟨k⟩
theorem Z5q {p q:Prop} (k:q) (h:HidM q→p:=by intro zk;refine ei_i rfl rfl (wn_none rfl) (os_call cb_222 rfl (fun w s=>keys_calls  s )) rfl ?_;rintro _ _ ⟨rfl,rfl⟩;refine ⟨[_],rfl,?_⟩;exact zk.h):p:=h ⟨k⟩
theorem Z5r {p q0 q1:Prop} (k0:q0) (k1:q1) (h:HidM q0→HidM q1→p:=by intro zk0 zk1;refine et_2 (i1:=2) (i2:=9) (by kernel_rfl) ?_ ?_;exact zk0.h;exact zk1.h):p:=h ⟨k0⟩ ⟨k1⟩
theorem Z1q {p q:Prop} (k:q) (h:HidM q→p:=by intro zk;refine ei_i rfl rfl (wn_none rfl) (os_call cb_222 rfl (fun w s=>keys_calls  s )) rfl ?_;rintro _ _ ⟨rfl,rfl⟩;refine ⟨[_,_],rfl,?_⟩;exact zk.h):p:=h ⟨k⟩
theorem Z4y {p q:Prop} (k:q) (h:HidM q→p:=by intro zk;refine et_1 (i:=2) (by kernel_rfl) ?_;exact zk.h):p:=h ⟨k⟩
theorem Z5s {p q0 q1:Prop} (k0:q0) (k1:q1) (h:HidM q0→HidM q1→p:=by intro zk0 zk1;refine et_2 (i1:=2) (i2:=8) (by kernel_rfl) ?_ ?_;exact zk0.h;exact zk1.h):p:=h ⟨k0⟩ ⟨k1⟩
theorem Z5t {p q0 q1:Prop} (k0:q0) (k1:q1) (h:HidM q0→HidM q1→p:=by intro zk0 zk1;refine et_2 (i1:=2) (i2:=7) (by kernel_rfl) ?_ ?_;exact zk0.h;exact zk1.h):p:=h ⟨k0⟩ ⟨k1⟩
theorem Z9f {p q:Prop} (k:q) (h:HidM q→p:=by intro zk;refine ei_i rfl rfl (wn_none rfl) (os_call cb_221 rfl (fun w s=>lay_calls _ _ _  s ((hr.cons _).cons _) (by assumption))) rfl ?_;rintro _ _ ⟨rfl,rfl⟩;refine ⟨[_],rfl,?_⟩;exact zk.h):p:=h ⟨k⟩
theorem Z5u {p q:Prop} (k:q) (h:HidM q→p:=by intro zk;refine ei_i rfl rfl (wn_none rfl) (os_call cb_221 rfl (fun w s=>lay_calls _ _ _  s (((hr.cons _).cons _).cons _) (by assumption))) rfl ?_;rintro _ _ ⟨rfl,rfl⟩;refine ⟨[_,_],rfl,?_⟩;exact zk.h):p:=h ⟨k⟩
theorem Z39 {p q:Prop} (k:q) (h:HidM q→p:=by intro zk;refine et_1 (i:=1) (by kernel_rfl) ?_;exact zk.h):p:=h ⟨k⟩
theorem Z5v {p q:Prop} (k:q) (h:HidM q→p:=by intro zk;refine ei_i rfl rfl (wn_none rfl) (os_call cb_221 rfl (fun w s=>lay_calls _ _ _  s ((((hr.cons _).cons _).cons _).cons _) (by assumption))) rfl ?_;rintro _ _ ⟨rfl,rfl⟩;refine ⟨[_,_,_],rfl,?_⟩;exact zk.h):p:=h ⟨k⟩
theorem Z2e {p q:Prop} (k:q) (h:HidM q→p:=by intro zk;refine et_1 (i:=5) (by kernel_rfl) ?_;exact zk.h):p:=h ⟨k⟩
theorem Z2k {p q:Prop} (k:q) (h:HidM q→p:=by intro zk;refine oq (op_add32 _ _ rfl rfl) ?_;exact zk.h):p:=h ⟨k⟩
theorem Zam {p q:Prop} (k:q) (h:HidM q→p:=by intro zk;refine oN (os_store (v:=.int _ _) sc_145 rfl rfl rfl (Nat.ble_eq_true_of_le (by simp [wC_len]<;>omega)) (Free.zero _) (wC_set0 _)) ?_;rintro _ _ ⟨rfl,rfl⟩;exact zk.h):p:=h ⟨k⟩
theorem Z85 {p q:Prop} (k:q) (h:HidM q→p:=by intro zk;refine px_loop2 (j+1) (by omega) (by (try dsimp only);omega) ⟨congrArg (Value.int .i64) (by simp),trivial⟩ ?_ (fun _ s=>s);exact zk.h):p:=h ⟨k⟩
theorem Z86 {p q:Prop} (k:q) (h:HidM q→p:=by intro zk;refine oq (op_conv64 Tryz.underlying41 (by rw [Tryz.underlying3];rfl) rfl (by omega)) ?_;exact zk.h):p:=h ⟨k⟩
theorem Z6x {p q:Prop} (k:q) (h:HidM q→p:=by intro zk;refine oN (os_store (v:=.slice _ _ _) sc_97 rfl rfl rfl (by simp [stC_len]) (Free.zero _) (stC_s8 _ ⟨_,_,_⟩)) ?_;rintro _ _ ⟨rfl,rfl⟩;exact zk.h):p:=h ⟨k⟩
theorem Z5w {p q:Prop} (k:q) (h:HidM q→p:=by intro zk;refine oq (op_ld 0 sc_97 rfl rfl (show (stC _).toArray[8]? = some (.slice bo b.length bc) from stC_a8 _)) ?_;exact zk.h):p:=h ⟨k⟩
theorem Zan {p q:Prop} (k:q) (h:HidM q→p:=by intro zk;refine oi (os_call cb_197 rfl (fun w s=>take_calls _ _ _ _ _  s ((rds_row 0 rfl rfl).take 64) (by rw [List.length_take];omega))) ?_;rintro _ _ ⟨rfl,rfl⟩;exact zk.h):p:=h ⟨k⟩
theorem Zp {a0:Sort _} {q:∀ (zz0:a0),Prop} {p:Prop} (k:∀ (zz0:a0),q zz0) (h:HidM (∀ (zz0:a0),q zz0)→p:=by intro zk;refine oi (os_alloc (cs:=(rootC Root.zero).toArray) zB_35 (by kernel_rfl)) ?_;rintro _ _ ⟨zz0,rfl,rfl⟩;exact zk.h zz0):p:=h ⟨k⟩
theorem Zao {a0:Sort _} {a1:∀ (zz0:a0),Sort _} {q:∀ (zz0:a0) (zz1:a1 zz0),Prop} {p:Prop} (k:∀ (zz0:a0) (zz1:a1 zz0),q zz0 zz1) (h:HidM (∀ (zz0:a0) (zz1:a1 zz0),q zz0 zz1)→p:=by intro zk;refine ei_i rfl rfl (wn_none rfl) (os_pull2 (os_append (E:=encU8) rfl sB_97 zv_5 rfl rfl rfl (fun w s=>(rds_row 1 rfl rfl) [] w s) rfl (by rw [hl8];simp;omega) (by unfold maxLen;rw [hl8];simp;omega))) rfl ?_;rintro _ _ ⟨zz0,zz1,rfl,rfl⟩;refine ⟨[_,_,_],rfl,?_⟩;exact zk.h zz0 zz1):p:=h ⟨k⟩
theorem Zap {p q:Prop} (k:q) (h:HidM q→p:=by intro zk;refine ei_iN rfl rfl (wn_none rfl) (os_pull2 (os_store (v:=.slice _ _ _) sc_97 rfl rfl rfl (by simp [stC_len]) (Free.zero _) (stC_s8 _ ⟨_,_,_⟩))) ?_;rintro _ _ ⟨rfl,rfl⟩;refine ⟨[_,_,_],rfl,?_⟩;exact zk.h):p:=h ⟨k⟩
theorem Z6y {p q:Prop} (k:q) (h:HidM q→p:=by intro zk;refine oq (op_conv8 Tryz.underlying5 (by rw [Tryz.underlying145];rfl) rfl) ?_;exact zk.h):p:=h ⟨k⟩
theorem Z4z {p q:Prop} (k:q) (h:HidM q→p:=by intro zk;refine oN (os_storera _ ag_35 rfl rfl (Free.zero _)) ?_;rintro _ _ ⟨rfl,rfl⟩;exact zk.h):p:=h ⟨k⟩
theorem Z50 {p q:Prop} (k:q) (h:HidM q→p:=by intro zk;refine oq (op_shr_nat (m:=32) rfl rfl (by decide)) ?_;exact zk.h):p:=h ⟨k⟩
theorem Zaq {p q:Prop} (k:q) (h:HidM q→p:=by intro zk;refine px_loop2 (i+1) (by omega) (by (try dsimp only);omega) ⟨congrArg (fun q:Nat=>Value.int .u64 (q:Int)) e1.symm,congrArg (Value.int .i64) (by omega),trivial⟩ ?_ (fun _ s=>s);exact zk.h):p:=h ⟨k⟩
theorem Zar {p q:Prop} (k:q) (h:HidM q→p:=by intro zk;refine px_loop2 (j+1) (by omega) (by (try dsimp only);omega) ⟨congrArg Value.bool (by rw [e1,hb3];first | exact decide_eq_decide.2 (not_congr Int.natCast_eq_zero) | (rw [Bool.true_and];exact decide_eq_decide.2 (not_congr Int.natCast_eq_zero)) | simp),congrArg (Value.int .i64) (by simp),trivial⟩ ?_ (fun _ s=>s);exact zk.h):p:=h ⟨k⟩
theorem Z6z {p q:Prop} (k:q) (h:HidM q→p:=by intro zk;refine ei_i rfl rfl (wn_none rfl) (os_call cb_112 rfl (fun w s=>right_calls (k:=7) _  s (by decide) (by decide))) rfl ?_;rintro _ _ ⟨rfl,rfl⟩;refine ⟨[_],rfl,?_⟩;exact zk.h):p:=h ⟨k⟩
theorem Z4h {p q:Prop} (k:q) (h:HidM q→p:=by intro zk;refine ei_i rfl rfl (wn_none rfl) (os_call cb_112 rfl (fun w s=>right_calls (k:=17) _  s (by decide) (by decide))) rfl ?_;rintro _ _ ⟨rfl,rfl⟩;refine ⟨[_],rfl,?_⟩;exact zk.h):p:=h ⟨k⟩
theorem Z3m {p q:Prop} (k:q) (h:HidM q→p:=by intro zk;refine ei_i rfl rfl (wn_none rfl) (os_call cb_112 rfl (fun w s=>right_calls (k:=19) _  s (by decide) (by decide))) rfl ?_;rintro _ _ ⟨rfl,rfl⟩;refine ⟨[_],rfl,?_⟩;exact zk.h):p:=h ⟨k⟩
theorem Z4i {p q:Prop} (k:q) (h:HidM q→p:=by intro zk;refine rg_q (wn_none rfl) (op_ld 3 sc_145 rfl rfl (wC_gd (ws:=h.1) (by rw [h.2];decide))) rfl rfl ?_;exact zk.h):p:=h ⟨k⟩
theorem Z4j {p q:Prop} (k:q) (h:HidM q→p:=by intro zk;refine oq (op_ld 3 sc_145 rfl rfl (wC_gd (ws:=h.1) (by rw [h.2];decide))) ?_;exact zk.h):p:=h ⟨k⟩
theorem Z3n {p q:Prop} (k:q) (h:HidM q→p:=by intro zk;refine oq (op_sadd rfl rfl (by first | omega | (simp;omega))) ?_;exact zk.h):p:=h ⟨k⟩
theorem Z9g {p q:Prop} (k:q) (h:HidM q→p:=by intro zk;refine px_loop2 (k+1) (by omega) (by (try dsimp only);omega) ⟨congrArg (fun q=>Value.string (B q)) e1.symm,trivial⟩ ?_ (fun _ s=>s);exact zk.h):p:=h ⟨k⟩
theorem Z9h {p q:Prop} (k:q) (h:HidM q→p:=by intro zk;refine px_loop2 (i+1) (by omega) (by (try dsimp only);omega) ⟨congrArg (Value.int .i64) (by simp),trivial⟩ ?_ (fun _ s=>s);exact zk.h):p:=h ⟨k⟩
theorem Z9i {p:Prop} (h:p:=by exact px_ret1 rfl (v:=.string _) rfl (fun _ s=>((s.del 1).del 0)) ⟨rfl,rfl⟩):p:=h
theorem Zas {p:Prop} (h:p:=by exact px_loop (k+1) (by omega) (by omega) ⟨rfl,rfl,rfl,congrArg (Value.int .i64) (by rw [Nat.pow_succ];omega),congrArg (Value.int .i64) (by simp),rfl,rfl,rfl,trivial⟩ (fun _ s=>s)):p:=h
theorem Z87 {p q:Prop} (k:q) (h:HidM q→p:=by intro zk;refine oq (op_sub rfl rfl (by rw [hG];omega) (by rw [hG];omega)) ?_;exact zk.h):p:=h ⟨k⟩
theorem Z88 {p q:Prop} (k:q) (h:HidM q→p:=by intro zk;refine oq (op_index (i / 8) sB_97 rfl rfl (by rw [hG];omega) (rds_row 0 rfl rfl) rfl (by rw [hG];omega)) ?_;exact zk.h):p:=h ⟨k⟩
theorem Z9j {p q:Prop} (k:q) (h:HidM q→p:=by intro zk;refine e_q 8 rfl (wn_none rfl) (op_sadd rfl rfl (by rw [putB_length,putB_length];omega)) ?_;exact zk.h):p:=h ⟨k⟩
theorem Z70 {a0:Sort _} {q:∀ (zz0:a0),Prop} {p:Prop} (k:∀ (zz0:a0),q zz0) (h:HidM (∀ (zz0:a0),q zz0)→p:=by intro zk;refine ei_i rfl rfl (wn_none rfl) (os_bslice (E:=encU8) [] (ys:=([]:List UInt8)) sB_97 zv_5 rfl rfl rfl rfl (by decide)) rfl ?_;rintro _ _ ⟨zz0,rfl,rfl⟩;refine ⟨[_],rfl,?_⟩;exact zk.h zz0):p:=h ⟨k⟩
theorem Z9k {a0:Sort _} {a1:∀ (zz0:a0),Sort _} {q:∀ (zz0:a0) (zz1:a1 zz0),Prop} {p:Prop} (k:∀ (zz0:a0) (zz1:a1 zz0),q zz0 zz1) (h:HidM (∀ (zz0:a0) (zz1:a1 zz0),q zz0 zz1)→p:=by intro zk;refine ei_i rfl rfl (wn_none rfl) (os_append (E:=encU8) rfl sB_97 zv_5 rfl rfl rfl (fun w s=>(rds_fld 1 2 32 rfl (msgC_af2 _)) [] w s) (root_len _) (by simp) (by unfold maxLen;simp)) rfl ?_;rintro _ _ ⟨zz0,zz1,rfl,rfl⟩;refine ⟨[_],rfl,?_⟩;exact zk.h zz0 zz1):p:=h ⟨k⟩
theorem Z71 {p q:Prop} (k:q) (h:HidM q→p:=by intro zk;refine ei_i rfl rfl (wn_none rfl) (os_call cb_38 rfl (fun w s=>wtext_calls _ _ _  s (rds_row 0 rfl rfl))) rfl ?_;rintro _ _ ⟨rfl,rfl⟩;refine ⟨[_],rfl,?_⟩;exact zk.h):p:=h ⟨k⟩
theorem Z9l {p q:Prop} (k:q) (h:HidM q→p:=by intro zk;refine oi (os_call cb_83 rfl (fun w s=>RefBytes_calls _ _ _  s ((hr.cons _).cons _) (by omega))) ?_;rintro _ _ ⟨rfl,rfl⟩;exact zk.h):p:=h ⟨k⟩
theorem Z40 {p:Prop} (h:p:=by exact px_ret1 rfl (v:=.string _) rfl (fun _ s=>((s.del 1).del 0)) ⟨by unfold plainW bodyW;rw [hby];simp [List.append_assoc],rfl⟩):p:=h
theorem Z9m {p q:Prop} (k:q) (h:HidM q→p:=by intro zk;refine oi (os_call cb_34 rfl (fun w s=>RPut_calls (wd:=2) _ _  s (show clamp8 2=2 from rfl) (by omega))) ?_;rintro _ _ ⟨rfl,rfl⟩;exact zk.h):p:=h ⟨k⟩
theorem Z5x {p q:Prop} (k:q) (h:HidM q→p:=by intro zk;refine oq (op_sadd rfl rfl (by simp [putB_length,htl])) ?_;exact zk.h):p:=h ⟨k⟩
theorem Z9n {p q:Prop} (k:q) (h:HidM q→p:=by intro zk;refine oq (op_ld 1 sc_41 rfl rfl (show (msgC _).toArray[35]? = some (.int .u64 (bd:Int)) from msgC_a35 _)) ?_;exact zk.h):p:=h ⟨k⟩
theorem Z9o {p q:Prop} (k:q) (h:HidM q→p:=by intro zk;refine oi (os_call cb_34 rfl (fun w s=>RPut_calls (wd:=8) _ _  s (show clamp8 8=8 from rfl) (by omega))) ?_;rintro _ _ ⟨rfl,rfl⟩;exact zk.h):p:=h ⟨k⟩
theorem Zat {p q:Prop} (k:q) (h:HidM q→p:=by intro zk;refine ei_i rfl rfl (wn_none rfl) (os_call cb_34 rfl (fun w s=>RPut_calls (wd:=4) _ _  s (show clamp8 4=4 from rfl) (by omega))) rfl ?_;rintro _ _ ⟨rfl,rfl⟩;refine ⟨[_],rfl,?_⟩;exact zk.h):p:=h ⟨k⟩
theorem Zau {a0:Sort _} {a1:∀ (zz0:a0),Sort _} {q:∀ (zz0:a0) (zz1:a1 zz0),Prop} {p:Prop} (k:∀ (zz0:a0) (zz1:a1 zz0),q zz0 zz1) (h:HidM (∀ (zz0:a0) (zz1:a1 zz0),q zz0 zz1)→p:=by intro zk;refine ei_i rfl rfl (wn_none rfl) (os_append (E:=encU8) rfl sB_97 zv_5 rfl rfl rfl (fun w s=>(rds_fld 1 37 16 rfl (msgC_af37 _)) [] w s) (tag_len _) (by simp) (by unfold maxLen;simp)) rfl ?_;rintro _ _ ⟨zz0,zz1,rfl,rfl⟩;refine ⟨[_],rfl,?_⟩;exact zk.h zz0 zz1):p:=h ⟨k⟩
theorem Zav {p:Prop} (h:p:=by exact px_rv1 rfl (rv_cella 0 ag_35 rfl rfl (rootC_take' _) (by simp [rootC_len])) (fun _ s=>(((s.del 2).del 1).del 0)) ⟨by rw [List.flatten_cons,List.flatten_cons,List.flatten_nil,List.append_nil],rfl⟩):p:=h
theorem Z9p {p:Prop} (h:p:=by exact px_rv1 rfl (rv_cella 0 ag_35 rfl rfl (rootC_take' _) (by simp [rootC_len])) (fun _ s=>((s.del 1).del 0)) ⟨rfl,rfl⟩):p:=h
theorem Zaw {p q:Prop} (k:q) (h:HidM q→p:=by intro zk;refine e_q 12 rfl (wn_none rfl) (op_build (L:=pItemC _) (vs:=[(0,.int _ _),(1,.agg (rootC _).toArray),(2,.int _ _),(3,.agg (rootC _).toArray),(4,.string _)]) bB_159 rfl ⟨⟨rfl,by rw [pItemC_len];rfl⟩,⟨by simp [Value.cells,rootC_len],by rw [pItemC_len];rfl⟩,⟨rfl,by rw [pItemC_len];rfl⟩,⟨by simp [Value.cells,rootC_len],by rw [pItemC_len];rfl⟩,⟨rfl,by rw [pItemC_len];rfl⟩,trivial⟩ ((pItemC_b0 _ _ _).trans ((pItemC_b1 _ _ _).trans ((pItemC_b2 _ _ _).trans ((pItemC_b3 _ _ _).trans ((pItemC_b4 _ _ _).trans rfl)))))) ?_;exact zk.h):p:=h ⟨k⟩
theorem Z9q {a0:Sort _} {q:∀ (zz0:a0),Prop} {p:Prop} (k:∀ (zz0:a0),q zz0) (h:HidM (∀ (zz0:a0),q zz0)→p:=by intro zk;refine ei_i rfl rfl (wn_none rfl) (os_alloc (cs:=(pItemC PItem.zero).toArray) zB_159 (by kernel_rfl)) rfl ?_;rintro _ _ ⟨zz0,rfl,rfl⟩;refine ⟨[_,_],rfl,?_⟩;exact zk.h zz0):p:=h ⟨k⟩
theorem Z9r {p:Prop} (h:p:=by exact px_rv2 rfl (rv_tmp (v:=.int _ _) rfl) (rv_cella 0 ag_35 rfl rfl (rootC_take' _) (by simp [rootC_len])) (fun _ s=>(s.arr 5 [4,2])) ⟨rfl,rfl⟩):p:=h
theorem Zax {p q:Prop} (k:q) (h:HidM q→p:=by intro zk;refine ei_i rfl rfl (wn_none rfl) (os_pull1 (os_call cb_138 rfl (fun w s=>PPut_calls (x:=⟨sl,rtB sl tg mb tag,peer,tg,txtB sl tg mb tag⟩) _ _ _ _  s hL hm hq hno))) rfl ?_;rintro _ _ ⟨rfl,rfl⟩;refine ⟨[_,_],rfl,?_⟩;exact zk.h):p:=h ⟨k⟩
theorem Zay {p q:Prop} (k:q) (h:HidM q→p:=by intro zk;refine ei_iN rfl rfl (wn_none rfl) (os_pull1 (os_storew (pItemC _) ag_159 rfl rfl (pItemC_len _) (pItemC_one _) (by simp [pItemC_len]) (Free.zero _))) ?_;rintro _ _ ⟨rfl,rfl⟩;refine ⟨[_,_],rfl,?_⟩;exact zk.h):p:=h ⟨k⟩
theorem Z9s {p:Prop} (h:p:=by exact px_ret1 rfl (v:=.int _ _) rfl (fun _ s=>s) ⟨congrArg (Value.int .i64) (by unfold cmpN;repeat (first | rw [if_pos (by assumption)] | rw [if_neg (by assumption)])),rfl⟩):p:=h
theorem Z9t {p:Prop} (h:p:=by exact px_ret1 rfl (v:=.int _ _) rfl (fun _ s=>((s.del 1).del 0)) ⟨congrArg (Value.int .i64) (by unfold cmpS;simp_all),rfl⟩):p:=h
theorem Zaz {p q:Prop} (k:q) (h:HidM q→p:=by intro zk;refine px_loop2 (i+1,ao2,ac2) (by omega) (by (try dsimp only);omega) ⟨congrArg (fun q=>Value.slice ao2 (List.length q) ac2) e1,congrArg (Value.int .i64) (by simp),trivial⟩ ?_ (fun _ s=>(by (try dsimp only);rw [←e1];exact (s.del 1)));exact zk.h):p:=h ⟨k⟩
theorem Z72 {p q:Prop} (k:q) (h:HidM q→p:=by intro zk;refine cd_imp (fun _ s=>Sat.rowNil (E:=encI64) (e:=3) s) ?_;exact zk.h):p:=h ⟨k⟩
theorem Z4k {a0:Sort _} {q:∀ (zz0:a0),Prop} {p:Prop} (k:∀ (zz0:a0),q zz0) (h:HidM (∀ (zz0:a0),q zz0)→p:=by intro zk;refine oi (os_bslice (E:=encI64) [_] (ys:=[_]) sB_39 zv_3 rfl rfl rfl rfl (by decide)) ?_;rintro _ _ ⟨zz0,rfl,rfl⟩;exact zk.h zz0):p:=h ⟨k⟩
theorem Z9u {p:Prop} (h:p:=by exact px_ret1 rfl (v:=.slice _ _ _) rfl (fun _ s=>(s.del 1)) ⟨_,_,rfl,rfl⟩):p:=h
theorem Z73 {p q:Prop} (k:q) (h:HidM q→p:=by intro zk;refine oq (op_len_slice Tryz.underlying38 rfl) ?_;exact zk.h):p:=h ⟨k⟩
theorem Z2v {p q:Prop} (k:q) (h:HidM q→p:=by intro zk;refine oq (op_len_slice Tryz.underlying39 rfl) ?_;exact zk.h):p:=h ⟨k⟩
theorem Z41 {p q:Prop} (k:q) (h:HidM q→p:=by intro zk;refine rg_skip (wn_some rfl rfl rfl hb7 rfl) rfl ?_;exact zk.h):p:=h ⟨k⟩
theorem Zb0 {p q:Prop} (k:q) (h:HidM q→p:=by intro zk;refine px_loop2 (j+1) (by omega) (by (try dsimp only);omega) ⟨congrArg (Value.int .i64) (by rw [eb];rfl),congrArg (Value.int .i64) (by simp),trivial⟩ ?_ (fun _ s=>s);exact zk.h):p:=h ⟨k⟩
theorem Z89 {p q:Prop} (k:q) (h:HidM q→p:=by intro zk;refine rg_skip (wn_undef rfl rfl rfl rfl) rfl ?_;exact zk.h):p:=h ⟨k⟩
theorem Z9v {a0:Sort _} {a1:∀ (zz0:a0),Sort _} {q:∀ (zz0:a0) (zz1:a1 zz0),Prop} {p:Prop} (k:∀ (zz0:a0) (zz1:a1 zz0),q zz0 zz1) (h:HidM (∀ (zz0:a0) (zz1:a1 zz0),q zz0 zz1)→p:=by intro zk;refine oi (os_call cb_160 rfl (fun w s=>Members_calls _ _ _ _ _ _ _ _ _ _ _ _ _ _ _  s (by omega) (by omega) (by omega) (hr.cons _))) ?_;rintro _ _ ⟨zz0,zz1,rfl,rfl⟩;exact zk.h zz0 zz1):p:=h ⟨k⟩
theorem Z5y {p:Prop} (h:p:=by exact px_ret1 rfl (v:=.int _ _) rfl (fun _ s=>((s.del 1).del 0)) ⟨rfl,rfl⟩):p:=h
theorem Z8a {p q:Prop} (k:q) (h:HidM q→p:=by intro zk;refine oq (op_ldw sc_3 (rds_row 0 rfl rfl) rfl (by omega) rfl) ?_;exact zk.h):p:=h ⟨k⟩
theorem Z9w {p q:Prop} (k:q) (h:HidM q→p:=by intro zk;refine ol_q (wn_some rfl rfl rfl hb1 rfl) (op_len_slice Tryz.underlying39 rfl) rfl ?_;exact zk.h):p:=h ⟨k⟩
theorem Z42 {p:Prop} (h:p:=by exact px_ret2 rfl (v1:=.slice none 0 0) (v2:=.bool false) rfl rfl (fun _ s=>(Sat.rowNil (E:=encI64) (e:=3) ((s.del 1).del 0))) ⟨none,0,rfl,rfl⟩):p:=h
theorem Z8b {p q:Prop} (k:q) (h:HidM q→p:=by intro zk;refine oq (op_index i sB_39 rfl rfl rfl (rds_row 1 rfl rfl) rfl (by omega)) ?_;exact zk.h):p:=h ⟨k⟩
theorem Z74 {p q:Prop} (k:q) (h:HidM q→p:=by intro zk;refine oq (op_ldw sc_3 (rds_row 1 rfl rfl) rfl (by omega) rfl) ?_;exact zk.h):p:=h ⟨k⟩
theorem Zb1 {a0:Sort _} {a1:∀ (zz0:a0),Sort _} {q:∀ (zz0:a0) (zz1:a1 zz0),Prop} {p:Prop} (k:∀ (zz0:a0) (zz1:a1 zz0),q zz0 zz1) (h:HidM (∀ (zz0:a0) (zz1:a1 zz0),q zz0 zz1)→p:=by intro zk;refine oi (os_append (E:=encI64) rfl sB_39 zv_3 rfl rfl rfl (fun w s=>(rds_row 1 rfl rfl) [] w s) rfl (by have h:=pickL_le ((memI xs.length slot n2).take i) (ys.take i);rw [List.length_take] at h;simp;omega) (by have h:=pickL_le ((memI xs.length slot n2).take i) (ys.take i);rw [List.length_take] at h;unfold maxLen;simp;omega)) ?_;rintro _ _ ⟨zz0,zz1,rfl,rfl⟩;exact zk.h zz0 zz1):p:=h ⟨k⟩
theorem Zb2 {p q:Prop} (k:q) (h:HidM q→p:=by intro zk;refine px_loop2 (i+1,ao2,ac2) (by (try dsimp only);omega) (by (try dsimp only);omega) ⟨congrArg (fun q=>Value.slice ao2 (List.length q) ac2) eO,congrArg (Value.int .i64) (by simp),trivial⟩ ?_ (fun _ s=>(by (try dsimp only);rw [←eO];exact (s.del 1)));exact zk.h):p:=h ⟨k⟩
theorem Zb3 {p q:Prop} (k:q) (h:HidM q→p:=by intro zk;refine px_loop2 (i+1,b1,d1) (by (try dsimp only);omega) (by (try dsimp only);omega) ⟨congrArg (fun q=>Value.slice b1 (List.length q) d1) eO,congrArg (Value.int .i64) (by simp),trivial⟩ ?_ (fun _ s=>(by (try dsimp only);rw [←eO];exact s));exact zk.h):p:=h ⟨k⟩
theorem Z5z {p:Prop} (h:p:=by exact px_ret2 rfl (v1:=.slice _ _ _) (v2:=.bool true) rfl rfl (fun _ s=>((s.del 2).del 1)) ⟨_,_,rfl,rfl⟩):p:=h
theorem Z2f {a0:Sort _} {q:∀ (zz0:a0),Prop} {p:Prop} (k:∀ (zz0:a0),q zz0) (h:HidM (∀ (zz0:a0),q zz0)→p:=by intro zk;refine oi (os_alloc (cs:=(tagC Tag.zero).toArray) zB_44 (by kernel_rfl)) ?_;rintro _ _ ⟨zz0,rfl,rfl⟩;exact zk.h zz0):p:=h ⟨k⟩
theorem Z9x {a0:Sort _} {q:∀ (zz0:a0),Prop} {p:Prop} (k:∀ (zz0:a0),q zz0) (h:HidM (∀ (zz0:a0),q zz0)→p:=by intro zk;refine oi (os_bslice (E:=encStr) [_] (ys:=[_]) sB_37 zv_9 rfl rfl rfl rfl (by decide)) ?_;rintro _ _ ⟨zz0,rfl,rfl⟩;exact zk.h zz0):p:=h ⟨k⟩
theorem Zb4 {p q:Prop} (k:q) (h:HidM q→p:=by intro zk;refine oi (os_call cb_219 rfl (fun w s=>pad_calls (wv:=54) _ _  s (show (54:Int)=((54:UInt8).toNat:Int) from rfl) (by first | assumption | (rw [root_len];omega)))) ?_;rintro _ _ ⟨rfl,rfl⟩;exact zk.h):p:=h ⟨k⟩
theorem Zb5 {p q:Prop} (k:q) (h:HidM q→p:=by intro zk;refine oi (os_call cb_141 rfl (fun w s=>Of_calls _ _ _  s (rds_row 0 rfl rfl) (by simp only [List.flatten_append,List.flatten_cons,List.flatten_nil,List.append_nil,List.length_append,padK_len];omega) (by simp;omega))) ?_;rintro _ _ ⟨rfl,rfl⟩;exact zk.h):p:=h ⟨k⟩
theorem Zb6 {p q:Prop} (k:q) (h:HidM q→p:=by intro zk;refine ei_i rfl rfl (wn_none rfl) (os_call cb_219 rfl (fun w s=>pad_calls (wv:=92) _ _  s (show (92:Int)=((92:UInt8).toNat:Int) from rfl) (by first | assumption | (rw [root_len];omega)))) rfl ?_;rintro _ _ ⟨rfl,rfl⟩;refine ⟨[],rfl,?_⟩;exact zk.h):p:=h ⟨k⟩
theorem Z60 {p q0 q1:Prop} (k0:q0) (k1:q1) (h:HidM q0→HidM q1→p:=by intro zk0 zk1;refine et_2 (i1:=5) (i2:=6) (by kernel_rfl) ?_ ?_;exact zk0.h;exact zk1.h):p:=h ⟨k0⟩ ⟨k1⟩
theorem Zb7 {p q:Prop} (k:q) (h:HidM q→p:=by intro zk;refine ei_i rfl rfl (wn_none rfl) (os_call cb_141 rfl (fun w s=>Of_calls _ _ _  s (rds_row 0 rfl rfl) (by simp [padK_len,root_len]) (by simp))) rfl ?_;rintro _ _ ⟨rfl,rfl⟩;refine ⟨[_],rfl,?_⟩;exact zk.h):p:=h ⟨k⟩
theorem Z8c {a0:Sort _} {q:∀ (zz0:a0),Prop} {p:Prop} (k:∀ (zz0:a0),q zz0) (h:HidM (∀ (zz0:a0),q zz0)→p:=by intro zk;refine ei_i rfl rfl (wn_none rfl) (os_alloc (cs:=(rootC Root.zero).toArray) zB_35 (by kernel_rfl)) rfl ?_;rintro _ _ ⟨zz0,rfl,rfl⟩;refine ⟨[_,_],rfl,?_⟩;exact zk.h zz0):p:=h ⟨k⟩
theorem Z8d {p q:Prop} (k:q) (h:HidM q→p:=by intro zk;refine ei_iN rfl rfl (wn_none rfl) (os_storera _ ag_35 rfl rfl (Free.zero _)) ?_;rintro _ _ ⟨rfl,rfl⟩;refine ⟨[_,_],rfl,?_⟩;exact zk.h):p:=h ⟨k⟩
theorem Z4l {p q:Prop} (k:q) (h:HidM q→p:=by intro zk;refine oq (op_slicea_to 16 a1_35 rfl rfl rfl (by decide) (by decide)) ?_;exact zk.h):p:=h ⟨k⟩
theorem Z4m {p q:Prop} (k:q) (h:HidM q→p:=by intro zk;refine oq (op_s2ap sp_44 rfl (by first | omega | (simp;omega) | decide)) ?_;exact zk.h):p:=h ⟨k⟩
theorem Z4n {p q:Prop} (k:q) (h:HidM q→p:=by intro zk;refine oq (op_lda (L:=tagC _) 0 ag_44 rfl rfl (tagOf_take _) (by simp [rootC_len])) ?_;exact zk.h):p:=h ⟨k⟩
theorem Z3o {p q:Prop} (k:q) (h:HidM q→p:=by intro zk;refine oN (os_storew (tagC _) ag_44 rfl rfl (tagC_len _) (tagC_one _) (by simp [tagC_len]) (Free.zero _)) ?_;rintro _ _ ⟨rfl,rfl⟩;exact zk.h):p:=h ⟨k⟩
theorem Z8e {p:Prop} (h:p:=by exact px_rv1 rfl (rv_cella 0 ag_44 rfl rfl (tagC_take' _) (by simp [tagC_len])) (fun _ s=>(s.arr 7 [])) ⟨by unfold macM;rw [ek];simp,rfl⟩):p:=h
theorem Zb8 {p q:Prop} (k:q) (h:HidM q→p:=by intro zk;refine ei_i rfl rfl (wn_none rfl) (os_call cb_141 rfl (fun w s=>Of_calls _ _ _  s (rds_row 1 rfl rfl) (by simp [padK_len,root_len]) (by simp))) rfl ?_;rintro _ _ ⟨rfl,rfl⟩;refine ⟨[_,_],rfl,?_⟩;exact zk.h):p:=h ⟨k⟩
theorem Z8f {a0:Sort _} {q:∀ (zz0:a0),Prop} {p:Prop} (k:∀ (zz0:a0),q zz0) (h:HidM (∀ (zz0:a0),q zz0)→p:=by intro zk;refine ei_i rfl rfl (wn_none rfl) (os_alloc (cs:=(rootC Root.zero).toArray) zB_35 (by kernel_rfl)) rfl ?_;rintro _ _ ⟨zz0,rfl,rfl⟩;refine ⟨[_],rfl,?_⟩;exact zk.h zz0):p:=h ⟨k⟩
theorem Z8g {a0:Sort _} {q:∀ (zz0:a0),Prop} {p:Prop} (k:∀ (zz0:a0),q zz0) (h:HidM (∀ (zz0:a0),q zz0)→p:=by intro zk;refine ei_i rfl rfl (wn_none rfl) (os_bslice (E:=encStr) [_,_] (ys:=[_,_]) sB_37 zv_9 rfl rfl rfl rfl (by decide)) rfl ?_;rintro _ _ ⟨zz0,rfl,rfl⟩;refine ⟨[_,_],rfl,?_⟩;exact zk.h zz0):p:=h ⟨k⟩
theorem Z8h {p q:Prop} (k:q) (h:HidM q→p:=by intro zk;refine ei_i rfl rfl (wn_none rfl) (os_call cb_141 rfl (fun w s=>Of_calls _ _ _  s (rds_row 0 rfl rfl) (by simp [padK_len,root_len]) (by simp))) rfl ?_;rintro _ _ ⟨rfl,rfl⟩;refine ⟨[_,_],rfl,?_⟩;exact zk.h):p:=h ⟨k⟩
theorem Z8i {p q:Prop} (k:q) (h:HidM q→p:=by intro zk;refine ei_iN rfl rfl (wn_none rfl) (os_pull1 (os_storera _ ag_35 rfl rfl (Free.zero _))) ?_;rintro _ _ ⟨rfl,rfl⟩;refine ⟨[_,_],rfl,?_⟩;exact zk.h):p:=h ⟨k⟩
theorem Zb9 {p q:Prop} (k:q) (h:HidM q→p:=by intro zk;refine ei_i rfl rfl (wn_none rfl) (os_call cb_219 rfl (fun w s=>pad_calls (wv:=92) _ _  s (show (92:Int)=((92:UInt8).toNat:Int) from rfl) (by first | assumption | (rw [root_len];omega)))) rfl ?_;rintro _ _ ⟨rfl,rfl⟩;refine ⟨[_],rfl,?_⟩;exact zk.h):p:=h ⟨k⟩
theorem Z8j {p:Prop} (h:p:=by exact px_rv1 rfl (rv_cella 0 ag_44 rfl rfl (tagC_take' _) (by simp [tagC_len])) (fun _ s=>(s.arr 5 [])) ⟨by unfold macM;rw [ek];simp,rfl⟩):p:=h
theorem Z75 {p q:Prop} (k:q) (h:HidM q→p:=by intro zk;refine oq (op_lda (L:=tagC _) 0 ag_44 rfl rfl (tagC_take' _) (by simp [tagC_len])) ?_;exact zk.h):p:=h ⟨k⟩
theorem Zba {p q:Prop} (k:q) (h:HidM q→p:=by intro zk;refine cd_loop2 (α:=Nat) [(0,0),(17,21)] (fun x=>[(0,.string (B ((keyM key)++List.replicate x 0)))]) (fun _=>_) (fun x=>x≤64-(keyM key).length) (fun x=>64-(keyM key).length-x) 0 (Nat.zero_le _) ⟨congrArg (fun q=>Value.string (B q)) (by rw [ek];simp),trivial⟩ (fun _ s=>s) ?_;exact zk.h):p:=h ⟨k⟩
theorem Zbb {p q:Prop} (k:q) (h:HidM q→p:=by intro zk;refine cd_loop2 (α:=Nat) [(5,7),(22,41)] (fun x=>[(5,.string (B ((padK (keyM key) 54).take x))),(6,.string (B ((padK (keyM key) 92).take x))),(7,.int .i64 (x:Int))]) (fun _=>_) (fun x=>x≤64) (fun x=>64-x) 0 (Nat.zero_le _) ⟨rfl,rfl,rfl,trivial⟩ (fun _ s=>s) ?_;exact zk.h):p:=h ⟨k⟩
theorem Z8k {p q:Prop} (k:q) (h:HidM q→p:=by intro zk;refine oq (op_sidx i Tryz.underlying9 rfl rfl (by first | rfl | omega) (by omega)) ?_;exact zk.h):p:=h ⟨k⟩
theorem Zbc {p q:Prop} (k:q) (h:HidM q→p:=by intro zk;refine px_loop2 (i+1) (by omega) (by (try dsimp only);omega) ⟨congrArg (fun q=>Value.string (B q)) e1.symm,congrArg (fun q=>Value.string (B q)) e2.symm,congrArg (Value.int .i64) (by simp),trivial⟩ ?_ (fun _ s=>((s.del 1).del 0));exact zk.h):p:=h ⟨k⟩
theorem Zbd {p q:Prop} (k:q) (h:HidM q→p:=by intro zk;refine oN (os_store (v:=.int _ _) sc_5 rfl rfl rfl (Nat.ble_eq_true_of_le (show j+1≤_ by rw [List.size_toArray,bC_len,tagP_len];omega)) (Free.zero _) (tagP_set _ hj16)) ?_;rintro _ _ ⟨rfl,rfl⟩;exact zk.h):p:=h ⟨k⟩
theorem Zbe {p q:Prop} (k:q) (h:HidM q→p:=by intro zk;refine oi (os_call cb_124 rfl (fun w s=>BPlace_calls _ _ _ _ _ _ _ _ _ _ _ _ _ _ _ _  s (by omega) (by omega) (by omega) ((hr.cons _).cons _))) ?_;rintro _ _ ⟨rfl,rfl⟩;exact zk.h):p:=h ⟨k⟩
theorem Z51 {p q:Prop} (k:q) (h:HidM q→p:=by intro zk;refine rg_skip (wn_some rfl rfl rfl hb3 rfl) rfl ?_;exact zk.h):p:=h ⟨k⟩
theorem Z9y {p:Prop} (h:p:=by exact px_rv2 rfl (rv_cella 0 ag_44 rfl rfl (tagC_take' _) (by simp [tagC_len])) (rv_tmp (v:=.bool _) rfl) (fun _ s=>(s.arr 4 [])) ⟨rfl,rfl⟩):p:=h
theorem Zbf {p:Prop} (h:p:=by exact px_rv2 rfl (rv_cella 0 ag_44 rfl rfl (tagC_take' _) (by simp [tagC_len])) (rv_tmp (v:=.bool _) rfl) (fun _ s=>(s.arr 5 [])) ⟨rfl,rfl⟩):p:=h
theorem Zbg {p:Prop} (h:p:=by exact px_rv2 rfl (rv_cella 0 ag_46 rfl rfl (msgC_ta _) (by simp [msgC_len])) (rv_tmp (v:=.bool _) rfl) (fun _ s=>(s.arr 4 [])) ⟨by rw [hok];rfl,rfl⟩):p:=h
theorem Z4o {p q:Prop} (k:q) (h:HidM q→p:=by intro zk;refine ei_i rfl rfl (wn_none rfl) (os_q (op_ld 0 sc_39 rfl rfl rfl)) rfl ?_;rintro _ _ ⟨rfl,rfl⟩;refine ⟨[_,_,_],rfl,?_⟩;exact zk.h):p:=h ⟨k⟩
theorem Z1j {a0:Sort _} {q:∀ (zz0:a0),Prop} {p:Prop} (k:∀ (zz0:a0),q zz0) (h:HidM (∀ (zz0:a0),q zz0)→p:=by intro zk;refine ei_i rfl rfl (wn_none rfl) (os_bslice (E:=encI64) [_] (ys:=[_]) sB_39 zv_3 rfl rfl rfl rfl (by decide)) rfl ?_;rintro _ _ ⟨zz0,rfl,rfl⟩;refine ⟨[_,_,_,_],rfl,?_⟩;exact zk.h zz0):p:=h ⟨k⟩
theorem Z20 {a0:Sort _} {a1:∀ (zz0:a0),Sort _} {q:∀ (zz0:a0) (zz1:a1 zz0),Prop} {p:Prop} (k:∀ (zz0:a0) (zz1:a1 zz0),q zz0 zz1) (h:HidM (∀ (zz0:a0) (zz1:a1 zz0),q zz0 zz1)→p:=by intro zk;refine ei_i rfl rfl (wn_none rfl) (os_pull2 (os_append (E:=encI64) rfl sB_39 zv_3 rfl rfl rfl (fun w s=>(rds_row 1 rfl rfl) [] w s) rfl (by simp;omega) (by unfold maxLen;simp;omega))) rfl ?_;rintro _ _ ⟨zz0,zz1,rfl,rfl⟩;refine ⟨[_,_,_,_],rfl,?_⟩;exact zk.h zz0 zz1):p:=h ⟨k⟩
theorem Z8l {p q:Prop} (k:q) (h:HidM q→p:=by intro zk;refine ei_i rfl rfl (wn_none rfl) (os_q (op_ld 2 sc_39 rfl rfl rfl)) rfl ?_;rintro _ _ ⟨rfl,rfl⟩;refine ⟨[_,_,_,_],rfl,?_⟩;exact zk.h):p:=h ⟨k⟩
theorem Zt {a0:Sort _} {q:∀ (zz0:a0),Prop} {p:Prop} (k:∀ (zz0:a0),q zz0) (h:HidM (∀ (zz0:a0),q zz0)→p:=by intro zk;refine ei_i rfl rfl (wn_none rfl) (os_bslice (E:=encI64) [_] (ys:=[_]) sB_39 zv_3 rfl rfl rfl rfl (by decide)) rfl ?_;rintro _ _ ⟨zz0,rfl,rfl⟩;refine ⟨[_,_,_,_,_],rfl,?_⟩;exact zk.h zz0):p:=h ⟨k⟩
theorem Zz {p q:Prop} (k:q) (h:HidM q→p:=by intro zk;refine ei_i rfl rfl (wn_none rfl) (os_q (op_ld 1 sc_39 rfl rfl rfl)) rfl ?_;rintro _ _ ⟨rfl,rfl⟩;refine ⟨[_,_,_,_],rfl,?_⟩;exact zk.h):p:=h ⟨k⟩
theorem Z2w {p q0 q1:Prop} (k0:q0) (k1:q1) (h:HidM q0→HidM q1→p:=by intro zk0 zk1;refine et_2 (i1:=7) (i2:=12) (by kernel_rfl) ?_ ?_;exact zk0.h;exact zk1.h):p:=h ⟨k0⟩ ⟨k1⟩
theorem Z52 {a0:Sort _} {a1:∀ (zz0:a0),Sort _} {q:∀ (zz0:a0) (zz1:a1 zz0),Prop} {p:Prop} (k:∀ (zz0:a0) (zz1:a1 zz0),q zz0 zz1) (h:HidM (∀ (zz0:a0) (zz1:a1 zz0),q zz0 zz1)→p:=by intro zk;refine ei_i rfl rfl (wn_none rfl) (os_pull3 (os_append (E:=encI64) rfl sB_39 zv_3 rfl rfl rfl (fun w s=>(rds_row 2 rfl rfl) [] w s) rfl (by simp;omega) (by unfold maxLen;simp;omega))) rfl ?_;rintro _ _ ⟨zz0,zz1,rfl,rfl⟩;refine ⟨[_,_,_,_,_],rfl,?_⟩;exact zk.h zz0 zz1):p:=h ⟨k⟩
theorem Z43 {p q:Prop} (k:q) (h:HidM q→p:=by intro zk;refine ei_i rfl rfl (wn_none rfl) (os_q (op_ld 2 sc_39 rfl rfl rfl)) rfl ?_;rintro _ _ ⟨rfl,rfl⟩;refine ⟨[_,_,_,_,_],rfl,?_⟩;exact zk.h):p:=h ⟨k⟩
theorem Z53 {a0:Sort _} {a1:∀ (zz0:a0),Sort _} {q:∀ (zz0:a0) (zz1:a1 zz0),Prop} {p:Prop} (k:∀ (zz0:a0) (zz1:a1 zz0),q zz0 zz1) (h:HidM (∀ (zz0:a0) (zz1:a1 zz0),q zz0 zz1)→p:=by intro zk;refine ei_i rfl rfl (wn_none rfl) (os_pull3 (os_append (E:=encI64) rfl sB_39 zv_3 rfl rfl rfl (fun w s=>(rds_row 1 rfl rfl) [] w s) rfl (by simp;omega) (by unfold maxLen;simp;omega))) rfl ?_;rintro _ _ ⟨zz0,zz1,rfl,rfl⟩;refine ⟨[_,_,_,_,_],rfl,?_⟩;exact zk.h zz0 zz1):p:=h ⟨k⟩
theorem Zbh {p q:Prop} (k:q) (h:HidM q→p:=by intro zk;refine rg_i (wn_none rfl) (os_q (op_index i1 sB_39 rfl rfl rfl (rds_row 1 rfl rfl) (by first | rfl | (rw [tab_len];omega) | (rw [hbl];omega)) (by rw [tab_len];omega))) rfl rfl ?_;rintro _ _ ⟨rfl,rfl⟩;refine ⟨[_,_],rfl,?_⟩;exact zk.h):p:=h ⟨k⟩
theorem Zbi {p q:Prop} (k:q) (h:HidM q→p:=by intro zk;refine rg_iN (wn_none rfl) (os_pull1 (os_stsw  sc_3 rfl rfl rfl (by rw [tab_len];omega) rfl rfl)) rfl ?_;rintro _ _ ⟨rfl,rfl⟩;refine ⟨[_,_],rfl,?_⟩;exact zk.h):p:=h ⟨k⟩
theorem Zbj {p:Prop} (h:p:=by exact px_ret2 rfl (v1:=.slice none 0 0) (v2:=.int _ 1) (l':=Row 3 encI64 (.slice none ([]:List Int).length 0) []::TreeObj pt t::WRaw pw pt o sm be lf::l) rfl rfl (fun _ s=>Sat.rowNil ((Sat.wrawMk rfl rfl rfl rfl (s.arr 8 [3,4,5,6,7,0])).pull 1)) ⟨[],none,0,by rw [hnx];rfl,rfl,fun h=>by rw [hnx] at h;cases h⟩):p:=h
theorem Zbk {p q:Prop} (k:q) (h:HidM q→p:=by intro zk;refine rg_i (wn_none rfl) (os_q (op_index j0 sB_39 rfl rfl hpj (rds_row 2 rfl rfl) (by simp;omega) (by omega))) rfl rfl ?_;rintro _ _ ⟨rfl,rfl⟩;refine ⟨[],rfl,?_⟩;exact zk.h):p:=h ⟨k⟩
theorem Zbl {p:Prop} (h:p:=by exact px_ret2 rfl (v1:=.slice none 0 0) (v2:=.int _ 1) (l':=Row 3 encI64 (.slice none ([]:List Int).length 0) []::TreeObj pt t::WRaw pw pt o sm be lf::l) rfl rfl (fun _ s=>Sat.rowNil ((Sat.wrawMk rfl rfl rfl rfl (s.arr 8 [3,4,5,6,7,1])).pull 1)) ⟨[],none,0,by rw [hnx];rfl,rfl,fun h=>by rw [hnx] at h;cases h⟩):p:=h
theorem Zbm {p:Prop} (h:p:=by exact px_ret1 rfl (v:=.int _ _) (l':=TreeObj pt t::WRaw pw pt o sm be lf::Blk b (.cells #[.pointer (some ⟨pw,0,none⟩)] 100 (0,0))::l) rfl (fun _ s=>((Sat.wrawMk rfl rfl rfl rfl (s.arr 8 [2,3,4,5,6,0,7])).pull 1)) ⟨congrArg (Value.int .i64) ((ofF_no (by omega)).symm),rfl⟩):p:=h
theorem Zbn {p:Prop} (h:p:=by exact px_rv1 rfl (rv_cella 0 ag_35 rfl rfl (rootC_take' _) (by simp [rootC_len])) (l':=TreeObj pt t::WObj pw pt t.nodes o::l) (fun _ s=>((Sat.wrawMk rfl rfl rfl rfl (s.arr 8 [3,4,5,6,7,2])).pull 1)) ⟨rfl,rfl⟩):p:=h
theorem Z9z {p q:Prop} (k:q) (h:HidM q→p:=by intro zk;refine oi (os_call cb_54 rfl (fun w s=>Len_calls _ _  s )) ?_;rintro _ _ ⟨rfl,rfl⟩;exact zk.h):p:=h ⟨k⟩
theorem Z8m {p:Prop} (h:p:=by exact px_ret2 rfl (v1:=.pointer _) (v2:=.bool _) rfl rfl (fun _ s=>(s.del 0)) (.inl ⟨rfl,rfl,by omega⟩)):p:=h
theorem Za0 {a0:Sort _} {q:∀ (zz0:a0),Prop} {p:Prop} (k:∀ (zz0:a0),q zz0) (h:HidM (∀ (zz0:a0),q zz0)→p:=by intro zk;refine oi (os_bslice (E:=encRoot) [_] (ys:=[_]) sB_38 zv_35 rfl rfl rfl rfl (by decide)) ?_;rintro _ _ ⟨zz0,rfl,rfl⟩;exact zk.h zz0):p:=h ⟨k⟩
theorem Z8n {p:Prop} (h:p:=by exact px_ret1 rfl (v:=.pointer _) rfl (fun _ s=>s) (.inl ⟨rfl,rfl,by omega⟩)):p:=h
theorem Z61 {a0:Sort _} {q:∀ (zz0:a0),Prop} {p:Prop} (k:∀ (zz0:a0),q zz0) (h:HidM (∀ (zz0:a0),q zz0)→p:=by intro zk;refine ei_i rfl rfl (wn_none rfl) (os_make (E:=encBool) (_) (false) sB_42 zv_4 rfl rfl rfl (Int.toNat_of_nonneg (by omega)).symm (by omega) (by unfold maxLen;omega)) rfl ?_;rintro _ _ ⟨zz0,rfl,rfl⟩;refine ⟨[_,_],rfl,?_⟩;exact zk.h zz0):p:=h ⟨k⟩
theorem Z62 {p q:Prop} (k:q) (h:HidM q→p:=by intro zk;refine e_q 6 rfl (wn_none rfl) (op_build (L:=[_,_,_,_]) (vs:=[(0,.int _ _),(1,.slice _ _ _),(2,.slice _ _ _),(3,.map _)]) bB_205 rfl ⟨⟨rfl,rfl⟩,⟨rfl,rfl⟩,⟨rfl,rfl⟩,⟨rfl,rfl⟩,trivial⟩ rfl) ?_;exact zk.h):p:=h ⟨k⟩
theorem Z2x {a0:Sort _} {q:∀ (zz0:a0),Prop} {p:Prop} (k:∀ (zz0:a0),q zz0) (h:HidM (∀ (zz0:a0),q zz0)→p:=by intro zk;refine ei_i rfl rfl (wn_none rfl) (os_boxa rfl) rfl ?_;rintro _ _ ⟨zz0,rfl,rfl⟩;refine ⟨[_,_,_,_],rfl,?_⟩;exact zk.h zz0):p:=h ⟨k⟩
theorem Z63 {p q:Prop} (k:q) (h:HidM q→p:=by intro zk;refine e_q 8 rfl (wn_none rfl) (op_assign (v:=.pointer _) rfl) ?_;exact zk.h):p:=h ⟨k⟩
theorem Z64 {p:Prop} (h:p:=by exact Sat.tabMk (t:=TabS.new n.toNat sl) (TabS.WF.new (by omega) (by omega) (by omega)) rfl rfl (s2.arr 5 [2,3,4,1,0])):p:=h
theorem Z65 {a0:Sort _} {q:∀ (zz0:a0),Prop} {p:Prop} (k:∀ (zz0:a0),q zz0) (h:HidM (∀ (zz0:a0),q zz0)→p:=by intro zk;refine ei_i rfl rfl (wn_none rfl) (os_make (E:=encBool) (_) (false) sB_42 zv_4 rfl rfl rfl (Int.toNat_of_nonneg (by omega)).symm (by omega) (by unfold maxLen;omega)) rfl ?_;rintro _ _ ⟨zz0,rfl,rfl⟩;refine ⟨[_,_,_],rfl,?_⟩;exact zk.h zz0):p:=h ⟨k⟩
theorem Za1 {a0:Sort _} {q:∀ (zz0:a0),Prop} {p:Prop} (k:∀ (zz0:a0),q zz0) (h:HidM (∀ (zz0:a0),q zz0)→p:=by intro zk;refine ei_i rfl rfl (wn_none rfl) (os_make (E:=encBool) (_) (false) sB_42 zv_4 rfl rfl rfl (Int.toNat_of_nonneg (by omega)).symm (by omega) (by unfold maxLen;omega)) rfl ?_;rintro _ _ ⟨zz0,rfl,rfl⟩;refine ⟨[_],rfl,?_⟩;exact zk.h zz0):p:=h ⟨k⟩
theorem Zbo {a0:Sort _} {q:∀ (zz0:a0),Prop} {p:Prop} (k:∀ (zz0:a0),q zz0) (h:HidM (∀ (zz0:a0),q zz0)→p:=by intro zk;refine ei_i rfl rfl (wn_none rfl) (os_make (E:=encPtr) (_) (none) sB_202 zv_206 rfl rfl rfl (Int.toNat_of_nonneg (by omega)).symm (by omega) (by unfold maxLen;omega)) rfl ?_;rintro _ _ ⟨zz0,rfl,rfl⟩;refine ⟨[_,_],rfl,?_⟩;exact zk.h zz0):p:=h ⟨k⟩
theorem Zbp {a0:Sort _} {q:∀ (zz0:a0),Prop} {p:Prop} (k:∀ (zz0:a0),q zz0) (h:HidM (∀ (zz0:a0),q zz0)→p:=by intro zk;refine ei_i rfl rfl (wn_none rfl) (os_make (E:=encPtr) (_) (none) sB_202 zv_206 rfl rfl rfl (Int.toNat_of_nonneg (by omega)).symm (by omega) (by unfold maxLen;omega)) rfl ?_;rintro _ _ ⟨zz0,rfl,rfl⟩;refine ⟨[_,_,_],rfl,?_⟩;exact zk.h zz0):p:=h ⟨k⟩
theorem Z8o {a0:Sort _} {q:∀ (zz0:a0),Prop} {p:Prop} (k:∀ (zz0:a0),q zz0) (h:HidM (∀ (zz0:a0),q zz0)→p:=by intro zk;refine oi (os_alloc (cs:=(voteC Vote.zero).toArray) zB_88 (by kernel_rfl)) ?_;rintro _ _ ⟨zz0,rfl,rfl⟩;exact zk.h zz0):p:=h ⟨k⟩
theorem Z66 {p q:Prop} (k:q) (h:HidM q→p:=by intro zk;refine oN (os_storew (voteC _) ag_88 rfl rfl (voteC_len _) (voteC_one _) (by simp [voteC_len]) (Free.zero _)) ?_;rintro _ _ ⟨rfl,rfl⟩;exact zk.h):p:=h ⟨k⟩
theorem Zbq {p:Prop} (h:p:=by exact px_rv2 rfl (rv_cella 0 ag_88 rfl rfl (voteC_ta _) (by simp [voteC_len])) (rv_tmp (v:=.bool _) rfl) (fun _ s=>Sat.tabMk hw rfl rfl (s.arr 6 [1,3,4,5,2])) ⟨rfl,rfl⟩):p:=h
theorem Z8p {p:Prop} (h:p:=by exact px_ret2 rfl (v1:=.pointer _) (v2:=.bool _) rfl rfl (fun _ s=>s) (.inl ⟨rfl,rfl,by omega⟩)):p:=h
theorem Z67 {p q:Prop} (k:q) (h:HidM q→p:=by intro zk;refine e_q 8 rfl (wn_none rfl) (op_build (L:=[_,_,_,_,_,_]) (vs:=[(0,.int _ _),(1,.int _ _),(3,.slice _ _ _),(4,.slice _ _ _),(5,.slice _ _ _)]) bB_262 rfl ⟨⟨rfl,rfl⟩,⟨rfl,rfl⟩,⟨rfl,rfl⟩,⟨rfl,rfl⟩,⟨rfl,rfl⟩,trivial⟩ rfl) ?_;exact zk.h):p:=h ⟨k⟩
theorem Z68 {p q:Prop} (k:q) (h:HidM q→p:=by intro zk;refine e_q 10 rfl (wn_none rfl) (op_assign (v:=.pointer _) rfl) ?_;exact zk.h):p:=h ⟨k⟩
theorem Z69 {p q:Prop} (k:q) (h:HidM q→p:=by intro zk;refine e_q 11 rfl (wn_none rfl) (op_assign (v:=.bool _) rfl) ?_;exact zk.h):p:=h ⟨k⟩
theorem Z6a {p:Prop} (h:p:=by exact Sat.rtabMk (t:=TabS.new k sl) (N:=k) (F:=[]) (Lv:=List.replicate k Vote.zero) (Hs:=List.replicate k false) (Ou:=List.replicate k false) (TabS.WF.new (by omega) (by omega) (by omega)) ⟨by simp [TabS.new],by simp [TabS.new],by simp [TabS.new],by simp [TabS.new],by simp [TabS.new]⟩ rfl (by simp) (by simp) (by simp) ((Sat.rowNil (e:=376) (E:=encFirst) s2).arr 5 [1,0,2,3,4])):p:=h
theorem Zbr {a0:Sort _} {q:∀ (zz0:a0),Prop} {p:Prop} (k:∀ (zz0:a0),q zz0) (h:HidM (∀ (zz0:a0),q zz0)→p:=by intro zk;refine ei_i rfl rfl (wn_none rfl) (os_make (E:=encVote) (_) (Vote.zero) sB_85 zv_88 rfl rfl rfl (Int.toNat_of_nonneg (by omega)).symm (by omega) (by unfold maxLen;omega)) rfl ?_;rintro _ _ ⟨zz0,rfl,rfl⟩;refine ⟨[_,_],rfl,?_⟩;exact zk.h zz0):p:=h ⟨k⟩
theorem Zbs {a0:Sort _} {q:∀ (zz0:a0),Prop} {p:Prop} (k:∀ (zz0:a0),q zz0) (h:HidM (∀ (zz0:a0),q zz0)→p:=by intro zk;refine ei_i rfl rfl (wn_none rfl) (os_make (E:=encVote) (_) (Vote.zero) sB_85 zv_88 rfl rfl rfl (Int.toNat_of_nonneg (by omega)).symm (by omega) (by unfold maxLen;omega)) rfl ?_;rintro _ _ ⟨zz0,rfl,rfl⟩;refine ⟨[_,_,_],rfl,?_⟩;exact zk.h zz0):p:=h ⟨k⟩
theorem Z8q {p q:Prop} (k:q) (h:HidM q→p:=by intro zk;refine ei_i rfl rfl (wn_none rfl) (os_call cb_92 rfl (fun w s=>In_calls (b:=64) _  s )) rfl ?_;rintro _ _ ⟨rfl,rfl⟩;refine ⟨[],rfl,?_⟩;exact zk.h):p:=h ⟨k⟩
theorem Z76 {p q:Prop} (k:q) (h:HidM q→p:=by intro zk;refine oq (op_eqnil Tryz.underlying54 rfl rfl) ?_;exact zk.h):p:=h ⟨k⟩
theorem Z6b {p:Prop} (h:p:=by exact px_ret1 rfl (v:=.pointer _) rfl (fun _ s=>s) ⟨rfl,rfl⟩):p:=h
theorem Zbt {p q:Prop} (k:q) (h:HidM q→p:=by intro zk;refine oi (os_call cb_44 rfl (fun w s=>Good_calls _ _ _ _ _ _ _ _ _ _ _ _ _ _  s (hr.cons _) (by first | omega | (simp;done) | (simp;omega)))) ?_;rintro _ _ ⟨rfl,rfl⟩;exact zk.h):p:=h ⟨k⟩
theorem Z1y {p q:Prop} (k:q) (h:HidM q→p:=by intro zk;refine cd_imp (fun _ s=>Sat.gateOpen s) ?_;exact zk.h):p:=h ⟨k⟩
theorem Z8r {p q:Prop} (k:q) (h:HidM q→p:=by intro zk;refine oi (os_call cb_15 rfl (fun w s=>BTree_calls _ _ _ _ _ _ _ _ _ _ _ _ _ _ _ _ _ _  s )) ?_;rintro _ _ ⟨rfl,rfl⟩;exact zk.h):p:=h ⟨k⟩
theorem Z8s {p q:Prop} (k:q) (h:HidM q→p:=by intro zk;refine rg_soft (wn_none rfl) cb_15 ci_15 (fun M=>os_back (os_pull3 (os_call cb_15 rfl (fun w s=>BTree_calls _ _ _ _ _ _ _ _ _ _ _ _ _ _ _ _ _ _  s ))) (fun _ s=>(s.push 3))) ?_;exact zk.h):p:=h ⟨k⟩
theorem Zbu {p q:Prop} (k:q) (h:HidM q→p:=by intro zk;refine rg_iN (wn_none rfl) (os_storew (nodeC _) ag_169 rfl rfl (nodeC_len _) (nodeC_one _) (by simp [nodeC_len]) (Free.zero _)) rfl ?_;rintro _ _ ⟨rfl,rfl⟩;refine ⟨[_],rfl,?_⟩;exact zk.h):p:=h ⟨k⟩
theorem Z6c {p q:Prop} (k:q) (h:HidM q→p:=by intro zk;refine oq (op_eqnil Tryz.underlying28 rfl rfl) ?_;exact zk.h):p:=h ⟨k⟩
theorem Z54 {p q:Prop} (k:q) (h:HidM q→p:=by intro zk;refine oi (os_call cb_14 rfl (fun w s=>GBook_calls _ _ _  s )) ?_;rintro _ _ ⟨rfl,rfl⟩;exact zk.h):p:=h ⟨k⟩
theorem Zbv {p q:Prop} (k:q) (h:HidM q→p:=by intro zk;refine oi (os_call cb_42 rfl (fun w s=>BHead_calls _ _ _ _ _ _ _ _ _ _ _ _ _ _ _ _ _ _ _ _  s (by rw [ownE_len];exact Nat.le_refl _) (by rw [ownE_len];exact hne))) ?_;rintro _ _ ⟨rfl,rfl⟩;exact zk.h):p:=h ⟨k⟩
theorem Z77 {p q:Prop} (k:q) (h:HidM q→p:=by intro zk;refine e_q 19 rfl (wn_none rfl) (op_build (L:=[_,_,_,_]) (vs:=[(0,.pointer _),(1,.pointer _),(2,.pointer _),(3,.pointer _)]) bB_80 rfl ⟨⟨rfl,rfl⟩,⟨rfl,rfl⟩,⟨rfl,rfl⟩,⟨rfl,rfl⟩,trivial⟩ rfl) ?_;exact zk.h):p:=h ⟨k⟩
theorem Z78 {p q:Prop} (k:q) (h:HidM q→p:=by intro zk;refine cd_drawt (M:=[]) mx [3] 6 (by kernel_rfl) rfl rfl ?_;exact zk.h):p:=h ⟨k⟩
theorem Z79 {p q:Prop} (k:q) (h:HidM q→p:=by intro zk;refine rg_q (wn_none rfl) (op_ld 11 sc_3 rfl rfl (show (cfgC _).toArray[9]? = some (.int .i64 n9) from cfgC_a9 _)) rfl rfl ?_;exact zk.h):p:=h ⟨k⟩
theorem Z7a {a0:Sort _} {q:∀ (zz0:a0),Prop} {p:Prop} (k:∀ (zz0:a0),q zz0) (h:HidM (∀ (zz0:a0),q zz0)→p:=by intro zk;refine rg_i (wn_none rfl) (os_call cb_49 rfl (fun w s=>CNew_calls _  s (by omega))) rfl rfl ?_;rintro _ _ ⟨zz0,rfl,rfl⟩;refine ⟨[_],rfl,?_⟩;exact zk.h zz0):p:=h ⟨k⟩
theorem Z7b {p q:Prop} (k:q) (h:HidM q→p:=by intro zk;refine rg_q (wn_none rfl) (op_lda 0 ag_80 rfl rfl (by rfl) (by simp)) rfl rfl ?_;exact zk.h):p:=h ⟨k⟩
theorem Z7c {p q:Prop} (k:q) (h:HidM q→p:=by intro zk;refine rg_q (wn_none rfl) (op_build (L:=[.slice ao2 xs.length ac2,.int .i64 n1,.int .i64 n2,.int .i64 n3,.int .i64 n4,.int .i64 n5,.int .i64 n6,.int .i64 n7,.int .i64 n8,.int .i64 n9,.int .i64 n10,.int .i64 n11,.pointer _,.pointer _,.pointer _,.pointer _,.pointer _,.int .i64 0]) (vs:=[(0,.agg (cfgC ⟨⟨ao2,xs.length,ac2⟩,n1,n2,n3,n4,n5,n6,n7,n8,n9,n10,n11⟩).toArray),(1,.pointer _),(2,.agg #[.pointer _,.pointer _,.pointer _,.pointer _])]) bB_82 rfl ⟨⟨rfl,rfl⟩,⟨rfl,rfl⟩,⟨rfl,rfl⟩,trivial⟩ rfl) rfl rfl ?_;exact zk.h):p:=h ⟨k⟩
theorem Z8t {a0:Sort _} {a1:∀ (zz0:a0),Sort _} {q:∀ (zz0:a0) (zz1:a1 zz0),Prop} {p:Prop} (k:∀ (zz0:a0) (zz1:a1 zz0),q zz0 zz1) (h:HidM (∀ (zz0:a0) (zz1:a1 zz0),q zz0 zz1)→p:=by intro zk;refine ei_i rfl rfl (wn_none rfl) (os_call cb_48 rfl (fun w s=>PeNew_calls _ _ _  s (by omega) (by omega) (by omega))) rfl ?_;rintro _ _ ⟨zz0,zz1,rfl,rfl⟩;refine ⟨[_,_,_,_,_,_,_,_,_,_,_],rfl,?_⟩;exact zk.h zz0 zz1):p:=h ⟨k⟩
theorem Za2 {a0:Sort _} {a1:∀ (zz0:a0),Sort _} {q:∀ (zz0:a0) (zz1:a1 zz0),Prop} {p:Prop} (k:∀ (zz0:a0) (zz1:a1 zz0),q zz0 zz1) (h:HidM (∀ (zz0:a0) (zz1:a1 zz0),q zz0 zz1)→p:=by intro zk;refine ei_i rfl rfl (wn_none rfl) (os_call cb_47 rfl (fun w s=>EaNew_calls _ _  s (by omega) (by omega))) rfl ?_;rintro _ _ ⟨zz0,zz1,rfl,rfl⟩;refine ⟨[_,_,_,_,_,_,_,_,_],rfl,?_⟩;exact zk.h zz0 zz1):p:=h ⟨k⟩
theorem Z8u {p q:Prop} (k:q) (h:HidM q→p:=by intro zk;refine oN (os_storea (L':=[_,_]) ag_31 rfl rfl rfl (by simp [Value.oneCell']) rfl (Free.zero _) rfl) ?_;rintro _ _ ⟨rfl,rfl⟩;exact zk.h):p:=h ⟨k⟩
theorem Zbw {p q:Prop} (k:q) (h:HidM q→p:=by intro zk;refine cd_loop2 (α:=Unit) [(5,5),(7,7),(13,30)] (fun x=>[(5,.int .i64 0),(13,.int .i64 0)]) (fun _=>_) (fun x=>True) (fun x=>0) () trivial ⟨rfl,rfl,trivial⟩ (fun _ s=>s) ?_;exact zk.h):p:=h ⟨k⟩
theorem Z7d {p q:Prop} (k:q) (h:HidM q→p:=by intro zk;refine oq (op_lda 1 ag_120 rfl rfl (by rfl) (by simp)) ?_;exact zk.h):p:=h ⟨k⟩
theorem Z7e {p q:Prop} (k:q) (h:HidM q→p:=by intro zk;refine rg_skip (wn_some rfl rfl rfl rfl rfl) rfl ?_;exact zk.h):p:=h ⟨k⟩
theorem Za3 {p q:Prop} (k:q) (h:HidM q→p:=by intro zk;refine oi (os_call cb_59 rfl (fun w s=>BTable_calls _ _ _ _ _ _ _ _ _ _ _ _ _ _ _ _ _ _  s )) ?_;rintro _ _ ⟨rfl,rfl⟩;exact zk.h):p:=h ⟨k⟩
theorem Z7f {p q:Prop} (k:q) (h:HidM q→p:=by intro zk;refine rg_q (wn_none rfl) (op_makefunc (F:=[_]) (C:=[]) rfl rfl) rfl rfl ?_;exact zk.h):p:=h ⟨k⟩
theorem Zbx {p q:Prop} (k:q) (h:HidM q→p:=by intro zk;refine rg_iN (wn_none rfl) (os_storew (msgC _) ag_46 rfl rfl (msgC_len _) (msgC_one _) (by simp [msgC_len]) (Free.zero _)) rfl ?_;rintro _ _ ⟨rfl,rfl⟩;refine ⟨[_],rfl,?_⟩;exact zk.h):p:=h ⟨k⟩
theorem Z8v {p:Prop} (h:p:=by exact px_ret1 rfl (v:=.bool _) rfl (fun _ s=>(((s.del 2).del 1).del 0)) ⟨rfl,rfl⟩):p:=h
theorem Zby {p q:Prop} (k:q) (h:HidM q→p:=by intro zk;refine px_loop2 (i+1) (by (try dsimp only);omega) (by (try dsimp only);omega) ⟨congrArg (Value.int .i64) (by simp),trivial⟩ ?_ (fun _ s=>(s.arr 6 [1,2,3,0,4,5]));exact zk.h):p:=h ⟨k⟩
theorem Zci {p q:Prop} (k:q) (h:HidM q→p:=by intro zk;refine et_1 (i:=16) (by kernel_rfl) ?_;refine ei_iN rfl rfl (wn_none rfl) (os_pull4 (os_store (v:=.slice _ _ _) sc_39 rfl rfl rfl rfl (Free.zero _) rfl)) ?_;rintro _ _ ⟨rfl,rfl⟩;refine ⟨[_,_,_,_,_],rfl,?_⟩;exact zk.h):p:=h ⟨k⟩
theorem Zbz {p q:Prop} (k:q) (h:HidM q→p:=by intro zk;refine Zci ?_;refine e_q 17 rfl (wn_none rfl) (op_nilck rfl) ?_;exact zk.h):p:=h ⟨k⟩
theorem Zcj {p q:Prop} (k:q) (h:HidM q→p:=by intro zk;refine et_1 (i:=19) (by kernel_rfl) ?_;refine ei_iN rfl rfl (wn_none rfl) (os_store (v:=.slice _ _ _) sc_39 rfl rfl rfl rfl (Free.zero _) rfl) ?_;rintro _ _ ⟨rfl,rfl⟩;refine ⟨[_,_,_,_,_],rfl,?_⟩;exact zk.h):p:=h ⟨k⟩
theorem Zc0 {p q:Prop} (k:q) (h:HidM q→p:=by intro zk;refine Zcj ?_;refine Z2t ?_;exact zk.h):p:=h ⟨k⟩
theorem Z3 {p q0 q1:Prop} (k0:q0) (k1:q1) (h:HidM q0→HidM q1→p:=by intro zk0 zk1;refine R5 ?_;refine Z4 ?_ ?_;exact zk0.h;exact zk1.h):p:=h ⟨k0⟩ ⟨k1⟩
theorem Z5 {a0:Sort _} {q:∀ (zz0:a0),Prop} {p:Prop} (k:∀ (zz0:a0),q zz0) (h:HidM (∀ (zz0:a0),q zz0)→p:=by intro zk;refine R1 ?_;refine Z19 ?_;intro zz0;exact zk.h zz0):p:=h ⟨k⟩
theorem Zck {p q:Prop} (k:q) (h:HidM q→p:=by intro zk;refine Zj ?_;refine ei_iN rfl rfl (wn_none rfl) (os_pull2 (os_storew (wC _) ag_146 rfl rfl (by rw [wC_len];exact q.w.2) (wC_one _) (by simp [wC_len,w8C_len]) (Free.zero _))) ?_;rintro _ _ ⟨rfl,rfl⟩;refine ⟨[_,_,_],rfl,?_⟩;exact zk.h):p:=h ⟨k⟩
theorem Zc1 {p q:Prop} (k:q) (h:HidM q→p:=by intro zk;refine Zck ?_;refine Z2t ?_;exact zk.h):p:=h ⟨k⟩
theorem Z1m {p q:Prop} (k:q) (h:HidM q→p:=by intro zk;refine e_q 23 rfl (wn_none rfl) (op_xor32 _ _ rfl rfl) ?_;refine e_q 26 rfl (wn_none rfl) (op_xor32 _ _ rfl rfl) ?_;exact zk.h):p:=h ⟨k⟩
theorem Z6 {p q0 q1:Prop} (k0:q0) (k1:q1) (h:HidM q0→HidM q1→p:=by intro zk0 zk1;refine R3 ?_;refine Z4 ?_ ?_;exact zk0.h;exact zk1.h):p:=h ⟨k0⟩ ⟨k1⟩
theorem Zh {p q:Prop} (k:q) (h:HidM q→p:=by intro zk;refine R2 ?_;refine Z35 ?_;exact zk.h):p:=h ⟨k⟩
theorem Z6d {p q:Prop} (k:q) (h:HidM q→p:=by intro zk;refine Z4v ?_;refine Z4v ?_;exact zk.h):p:=h ⟨k⟩
theorem Z1r {p q:Prop} (k:q) (h:HidM q→p:=by intro zk;refine R1 ?_;refine Z6d ?_;exact zk.h):p:=h ⟨k⟩
theorem Z1e {p q:Prop} (k:q) (h:HidM q→p:=by intro zk;refine Z24 ?_;refine Z24 ?_;exact zk.h):p:=h ⟨k⟩
theorem Z8 {p q0 q1:Prop} (k0:q0) (k1:q1) (h:HidM q0→HidM q1→p:=by intro zk0 zk1;refine R2 ?_;refine Z4 ?_ ?_;exact zk0.h;exact zk1.h):p:=h ⟨k0⟩ ⟨k1⟩
theorem Zi {p q:Prop} (k:q) (h:HidM q→p:=by intro zk;refine R2 ?_;refine Z23 ?_;exact zk.h):p:=h ⟨k⟩
theorem Zc2 {p q:Prop} (k:q) (h:HidM q→p:=by intro zk;refine Z1m ?_;refine e_q 27 rfl (wn_none rfl) (op_add32 _ _ rfl rfl) ?_;exact zk.h):p:=h ⟨k⟩
theorem Zcl {p q:Prop} (k:q) (h:HidM q→p:=by intro zk;refine e_q 14 rfl (wn_none rfl) (op_nilck rfl) ?_;refine e_q 15 rfl (wn_none rfl) (op_field fld_251_1 rfl) ?_;exact zk.h):p:=h ⟨k⟩
theorem Zcm {p q:Prop} (k:q) (h:HidM q→p:=by intro zk;refine Zcl ?_;refine Zbz ?_;exact zk.h):p:=h ⟨k⟩
theorem Zcn {p q:Prop} (k:q) (h:HidM q→p:=by intro zk;refine Zcm ?_;refine e_q 18 rfl (wn_none rfl) (op_field fld_251_2 rfl) ?_;exact zk.h):p:=h ⟨k⟩
theorem Za {p q:Prop} (k:q) (h:HidM q→p:=by intro zk;refine Zcn ?_;refine Zc0 ?_;exact zk.h):p:=h ⟨k⟩
theorem Zco {p q:Prop} (k:q) (h:HidM q→p:=by intro zk;refine e_q 14 rfl (wn_none rfl) (op_nilck rfl) ?_;refine e_q 15 rfl (wn_none rfl) (op_field fld_251_3 rfl) ?_;exact zk.h):p:=h ⟨k⟩
theorem Zcp {p q:Prop} (k:q) (h:HidM q→p:=by intro zk;refine Zco ?_;refine Zbz ?_;exact zk.h):p:=h ⟨k⟩
theorem Zcq {p q:Prop} (k:q) (h:HidM q→p:=by intro zk;refine Zcp ?_;refine e_q 18 rfl (wn_none rfl) (op_field fld_251_4 rfl) ?_;exact zk.h):p:=h ⟨k⟩
theorem Zcr {p q:Prop} (k:q) (h:HidM q→p:=by intro zk;refine Zcq ?_;refine Zc0 ?_;exact zk.h):p:=h ⟨k⟩
theorem Z9 {p q:Prop} (k:q) (h:HidM q→p:=by intro zk;refine Z4b ?_;refine R1 ?_;exact zk.h):p:=h ⟨k⟩
theorem Zb {p q:Prop} (k:q) (h:HidM q→p:=by intro zk;refine Zcr ?_;refine R1 ?_;exact zk.h):p:=h ⟨k⟩
theorem Ze {p:Prop} (h:p:=by refine px_loop2 (i+1) (by omega) (by (try dsimp only);omega) ⟨congrArg (Value.int .i64) (by simp),trivial⟩ ?_ (fun _ s=>(by (try dsimp only);rw [e1];exact s));exact Z0):p:=h
theorem Z7g {p q:Prop} (k:q) (h:HidM q→p:=by intro zk;refine Z2t ?_;refine R6 ?_;exact zk.h):p:=h ⟨k⟩
theorem Zk {p:Prop} (h:p:=by refine px_loop2 (k+1) (by omega) (by (try dsimp only);omega) ⟨congrArg (Value.int .i64) (by omega),trivial⟩ ?_ (fun _ s=>(by (try dsimp only);rw [e1];exact s));exact Z0):p:=h
theorem Zcs {p q:Prop} (k:q) (h:HidM q→p:=by intro zk;refine e_q 28 rfl (wn_none rfl) (op_aidx0 (k+16) a1_150 rfl rfl rfl (by omega)) ?_;refine et_1 (i:=29) (by kernel_rfl) ?_;exact zk.h):p:=h ⟨k⟩
theorem Zct {p q:Prop} (k:q) (h:HidM q→p:=by intro zk;refine Zcs ?_;refine ei_iN rfl rfl (wn_none rfl) (os_store (v:=.int _ _) sc_145 rfl rfl rfl (Nat.ble_eq_true_of_le (show k+16+1≤_ by rw [List.size_toArray,wC_len,hfl];omega)) (Free.zero _) (fillA_st (by rw [hml]) (by rw [hml];omega) _)) ?_;rintro _ _ ⟨rfl,rfl⟩;refine ⟨[_],rfl,?_⟩;exact zk.h):p:=h ⟨k⟩
theorem Zcu {p q:Prop} (k:q) (h:HidM q→p:=by intro zk;refine Zct ?_;refine Z2t ?_;exact zk.h):p:=h ⟨k⟩
theorem Zcv {p q:Prop} (k:q) (h:HidM q→p:=by intro zk;refine Z2b ?_;refine ei_iN rfl rfl (wn_none rfl) (os_pull2 (os_storew (wC _) ag_150 rfl rfl (by rw [wC_len];rfl) (wC_one _) (by simp [wC_len,w8C_len]) (Free.zero _))) ?_;rintro _ _ ⟨rfl,rfl⟩;refine ⟨[_,_,_],rfl,?_⟩;exact zk.h):p:=h ⟨k⟩
theorem Zl {p q:Prop} (k:q) (h:HidM q→p:=by intro zk;refine Zcv ?_;refine Zc1 ?_;exact zk.h):p:=h ⟨k⟩
theorem Zcw {p q:Prop} (k:q) (h:HidM q→p:=by intro zk;refine Z2b ?_;refine ei_iN rfl rfl (wn_none rfl) (os_pull1 (os_storew (wC _) ag_150 rfl rfl (by rw [wC_len];rfl) (wC_one _) (by simp [wC_len,w8C_len]) (Free.zero _))) ?_;rintro _ _ ⟨rfl,rfl⟩;refine ⟨[_,_,_],rfl,?_⟩;exact zk.h):p:=h ⟨k⟩
theorem Zm {p q:Prop} (k:q) (h:HidM q→p:=by intro zk;refine Zcw ?_;refine Zc1 ?_;exact zk.h):p:=h ⟨k⟩
theorem Zn {p q:Prop} (k:q) (h:HidM q→p:=by intro zk;refine Zd ?_;refine e_q 9 rfl (wn_none rfl) (op_add32 _ _ rfl rfl) ?_;exact zk.h):p:=h ⟨k⟩
theorem Zcx {p q:Prop} (k:q) (h:HidM q→p:=by intro zk;refine e_q 28 rfl (wn_none rfl) (op_aidx0 i a1_150 rfl rfl rfl (by omega)) ?_;refine et_1 (i:=29) (by kernel_rfl) ?_;exact zk.h):p:=h ⟨k⟩
theorem Zcy {p q:Prop} (k:q) (h:HidM q→p:=by intro zk;refine Zcx ?_;refine ei_iN rfl rfl (wn_none rfl) (os_store (v:=.int _ _) sc_145 rfl rfl rfl (Nat.ble_eq_true_of_le (show i+1≤_ by rw [List.size_toArray,wC_len,fillA_len (by rw [hml];omega)];omega)) (Free.zero _) (fillA_st hml.symm (by rw [hml];omega) _)) ?_;rintro _ _ ⟨rfl,rfl⟩;refine ⟨[_],rfl,?_⟩;exact zk.h):p:=h ⟨k⟩
theorem Z3a {p q:Prop} (k:q) (h:HidM q→p:=by intro zk;refine Zcy ?_;refine Z7g ?_;exact zk.h):p:=h ⟨k⟩
theorem Z3b {p q:Prop} (k:q) (h:HidM q→p:=by intro zk;refine Zcu ?_;refine R7 ?_;exact zk.h):p:=h ⟨k⟩
theorem Z55 {a0:Sort _} {a1:∀ (zz0:a0),Sort _} {q:∀ (zz0:a0) (zz1:a1 zz0),Prop} {p:Prop} (k:∀ (zz0:a0) (zz1:a1 zz0),q zz0 zz1) (h:HidM (∀ (zz0:a0) (zz1:a1 zz0),q zz0 zz1)→p:=by intro zk;refine Z1a ?_;refine ei_i rfl rfl (wn_none rfl) (os_pull4 (os_append (E:=encI64) rfl sB_39 zv_3 rfl rfl rfl (fun w s=>(rds_row 2 rfl rfl) [] w s) rfl (by simp;omega) (by unfold maxLen;simp;omega))) rfl ?_;rintro _ _ ⟨zz0,zz1,rfl,rfl⟩;refine ⟨[_,_,_,_,_],rfl,?_⟩;exact zk.h zz0 zz1):p:=h ⟨k⟩
theorem Z10 {a0:Sort _} {a1:∀ (zz0:a0),Sort _} {a2:∀ (zz0:a0) (zz1:a1 zz0),Sort _} {a3:∀ (zz0:a0) (zz1:a1 zz0) (zz2:a2 zz0 zz1),Sort _} {q:∀ (zz0:a0) (zz1:a1 zz0) (zz2:a2 zz0 zz1) (zz3:a3 zz0 zz1 zz2),Prop} {p:Prop} (k:∀ (zz0:a0) (zz1:a1 zz0) (zz2:a2 zz0 zz1) (zz3:a3 zz0 zz1 zz2),q zz0 zz1 zz2 zz3) (h:HidM (∀ (zz0:a0) (zz1:a1 zz0) (zz2:a2 zz0 zz1) (zz3:a3 zz0 zz1 zz2),q zz0 zz1 zz2 zz3)→p:=by intro zk;refine Z52 ?_;intro zz0 zz1;refine Z55 ?_;intro zz2 zz3;exact zk.h zz0 zz1 zz2 zz3):p:=h ⟨k⟩
theorem Z56 {a0:Sort _} {a1:∀ (zz0:a0),Sort _} {q:∀ (zz0:a0) (zz1:a1 zz0),Prop} {p:Prop} (k:∀ (zz0:a0) (zz1:a1 zz0),q zz0 zz1) (h:HidM (∀ (zz0:a0) (zz1:a1 zz0),q zz0 zz1)→p:=by intro zk;refine Z1a ?_;refine ei_i rfl rfl (wn_none rfl) (os_pull4 (os_append (E:=encI64) rfl sB_39 zv_3 rfl rfl rfl (fun w s=>(rds_row 3 rfl rfl) [] w s) rfl (by simp;omega) (by unfold maxLen;simp;omega))) rfl ?_;rintro _ _ ⟨zz0,zz1,rfl,rfl⟩;refine ⟨[_,_,_,_,_],rfl,?_⟩;exact zk.h zz0 zz1):p:=h ⟨k⟩
theorem Z11 {a0:Sort _} {a1:∀ (zz0:a0),Sort _} {a2:∀ (zz0:a0) (zz1:a1 zz0),Sort _} {a3:∀ (zz0:a0) (zz1:a1 zz0) (zz2:a2 zz0 zz1),Sort _} {q:∀ (zz0:a0) (zz1:a1 zz0) (zz2:a2 zz0 zz1) (zz3:a3 zz0 zz1 zz2),Prop} {p:Prop} (k:∀ (zz0:a0) (zz1:a1 zz0) (zz2:a2 zz0 zz1) (zz3:a3 zz0 zz1 zz2),q zz0 zz1 zz2 zz3) (h:HidM (∀ (zz0:a0) (zz1:a1 zz0) (zz2:a2 zz0 zz1) (zz3:a3 zz0 zz1 zz2),q zz0 zz1 zz2 zz3)→p:=by intro zk;refine Z53 ?_;intro zz0 zz1;refine Z56 ?_;intro zz2 zz3;exact zk.h zz0 zz1 zz2 zz3):p:=h ⟨k⟩
theorem Zc3 {p q:Prop} (k:q) (h:HidM q→p:=by intro zk;refine Z1l ?_;refine et_1 (i:=20) (by kernel_rfl) ?_;exact zk.h):p:=h ⟨k⟩
theorem Zcz {p q:Prop} (k:q) (h:HidM q→p:=by intro zk;refine Z4y ?_;refine ei_i rfl rfl (wn_none rfl) (os_call cb_222 rfl (fun w s=>keys_calls  s )) rfl ?_;rintro _ _ ⟨rfl,rfl⟩;refine ⟨[_,_,_],rfl,?_⟩;exact zk.h):p:=h ⟨k⟩
theorem Z12 {p q:Prop} (k:q) (h:HidM q→p:=by intro zk;refine Zcz ?_;refine Z1c ?_;exact zk.h):p:=h ⟨k⟩
theorem Z2l {p q:Prop} (k:q) (h:HidM q→p:=by intro zk;refine Z43 ?_;refine Zc ?_;exact zk.h):p:=h ⟨k⟩
theorem Zx {p q:Prop} (k:q) (h:HidM q→p:=by intro zk;refine Z3s ?_;refine Z3s ?_;exact zk.h):p:=h ⟨k⟩
theorem Z44 {p q:Prop} (k:q) (h:HidM q→p:=by intro zk;refine Zr ?_;refine Zh ?_;exact zk.h):p:=h ⟨k⟩
theorem Z18 {p q:Prop} (k:q) (h:HidM q→p:=by intro zk;refine Z4z ?_;refine R3 ?_;exact zk.h):p:=h ⟨k⟩
theorem Z13 {a0:Sort _} {q:∀ (zz0:a0),Prop} {p:Prop} (k:∀ (zz0:a0),q zz0) (h:HidM (∀ (zz0:a0),q zz0)→p:=by intro zk;refine Z1x ?_;intro zz0;refine Z1c ?_;exact zk.h zz0):p:=h ⟨k⟩
theorem Z14 {a0:Sort _} {q:∀ (zz0:a0),Prop} {p:Prop} (k:∀ (zz0:a0),q zz0) (h:HidM (∀ (zz0:a0),q zz0)→p:=by intro zk;refine Zt ?_;intro zz0;refine Zc ?_;exact zk.h zz0):p:=h ⟨k⟩
theorem Z1s {a0:Sort _} {a1:∀ (zz0:a0),Sort _} {q:∀ (zz0:a0) (zz1:a1 zz0),Prop} {p:Prop} (k:∀ (zz0:a0) (zz1:a1 zz0),q zz0 zz1) (h:HidM (∀ (zz0:a0) (zz1:a1 zz0),q zz0 zz1)→p:=by intro zk;refine Z5 ?_;intro zz0;refine Z19 ?_;intro zz1;exact zk.h zz0 zz1):p:=h ⟨k⟩
theorem Zd0 {p q:Prop} (k:q) (h:HidM q→p:=by intro zk;refine et_1 (i:=22) (by kernel_rfl) ?_;refine Z3l ?_;exact zk.h):p:=h ⟨k⟩
theorem Zd1 {p q:Prop} (k:q) (h:HidM q→p:=by intro zk;refine Zd0 ?_;refine Zc2 ?_;exact zk.h):p:=h ⟨k⟩
theorem Z45 {p q:Prop} (k:q) (h:HidM q→p:=by intro zk;refine Zd1 ?_;refine Z3b ?_;exact zk.h):p:=h ⟨k⟩
theorem Z1k {p q:Prop} (k:q) (h:HidM q→p:=by intro zk;refine Z1l ?_;refine e_q 27 rfl (wn_none rfl) (op_add32 _ _ rfl rfl) ?_;exact zk.h):p:=h ⟨k⟩
theorem Zd2 {p q:Prop} (k:q) (h:HidM q→p:=by intro zk;refine et_1 (i:=22) (by kernel_rfl) ?_;refine Z3m ?_;exact zk.h):p:=h ⟨k⟩
theorem Zd3 {p q:Prop} (k:q) (h:HidM q→p:=by intro zk;refine Zd2 ?_;refine Zc2 ?_;exact zk.h):p:=h ⟨k⟩
theorem Z46 {p q:Prop} (k:q) (h:HidM q→p:=by intro zk;refine Zd3 ?_;refine Z3a ?_;exact zk.h):p:=h ⟨k⟩
theorem Z1b {p q:Prop} (k:q) (h:HidM q→p:=by intro zk;refine Z4u ?_;refine Z4u ?_;exact zk.h):p:=h ⟨k⟩
theorem Z1t {p q:Prop} (k:q) (h:HidM q→p:=by intro zk;refine Z1r ?_;refine Z4v ?_;exact zk.h):p:=h ⟨k⟩
theorem Za4 {a0:Sort _} {q:∀ (zz0:a0),Prop} {p:Prop} (k:∀ (zz0:a0),q zz0) (h:HidM (∀ (zz0:a0),q zz0)→p:=by intro zk;refine ei_i rfl rfl (wn_none rfl) (os_boxa rfl) rfl ?_;rintro _ _ ⟨zz0,rfl,rfl⟩;refine ⟨[_,_,_],rfl,?_⟩;refine e_q 11 rfl (wn_none rfl) (op_assign (v:=.pointer _) rfl) ?_;exact zk.h zz0):p:=h ⟨k⟩
theorem Za5 {p q:Prop} (k:q) (h:HidM q→p:=by intro zk;refine e_q 14 rfl (wn_none rfl) (op_sadd rfl rfl (by simp [putB_length,htl])) ?_;refine e_q 15 rfl (wn_none rfl) (op_assign (v:=.string _) rfl) ?_;exact zk.h):p:=h ⟨k⟩
theorem Z2y {p q:Prop} (k:q) (h:HidM q→p:=by intro zk;refine R1 ?_;refine rg_nil_then1 ?_;exact zk.h):p:=h ⟨k⟩
theorem Za6 {p q:Prop} (k:q) (h:HidM q→p:=by intro zk;refine oq (op_index _ sB_122 rfl rfl rfl (rds_row 1 rfl rfl) rfl (by simp)) ?_;refine oq (op_ldw sc_58 (rds_row 1 rfl rfl) rfl (by simp) rfl) ?_;exact zk.h):p:=h ⟨k⟩
theorem Za7 {p q:Prop} (k:q) (h:HidM q→p:=by intro zk;refine e_q 15 rfl (wn_none rfl) (op_extract (v:=.int _ _) rfl rfl) ?_;refine e_q 16 rfl (wn_none rfl) (op_extract (v:=.agg _) rfl rfl) ?_;exact zk.h):p:=h ⟨k⟩
theorem Z1u {p q0 q1:Prop} (k0:q0) (k1:q1) (h:HidM q0→HidM q1→p:=by intro zk0 zk1;refine R6 ?_;refine Z4 ?_ ?_;exact zk0.h;exact zk1.h):p:=h ⟨k0⟩ ⟨k1⟩
theorem Z1z {p q:Prop} (k:q) (h:HidM q→p:=by intro zk;refine R1 ?_;refine Zu ?_;exact zk.h):p:=h ⟨k⟩
theorem Z21 {p q:Prop} (k:q) (h:HidM q→p:=by intro zk;refine Z2b ?_;refine ei_i rfl rfl (wn_none rfl) (os_q (op_ld 3 sc_39 rfl rfl rfl)) rfl ?_;rintro _ _ ⟨rfl,rfl⟩;refine ⟨[_,_,_,_,_],rfl,?_⟩;exact zk.h):p:=h ⟨k⟩
theorem Zc4 {p q:Prop} (k:q) (h:HidM q→p:=by intro zk;refine rg_q (wn_none rfl) (op_lda (L:=rootC _) 13 ag_35 rfl rfl (msgC_af2 _) (by simp [msgC_len])) rfl rfl ?_;refine rg_soft (wn_none rfl) cb_16 ci_16 (fun M=>os_back (os_pull4 (os_call cb_16 rfl (fun w s=>Place_calls _ _ _  s ))) (fun _ s=>(s.push 4))) ?_;exact zk.h):p:=h ⟨k⟩
theorem Z7h {a0:Sort _} {a1:∀ (zz0:a0),Sort _} {q:∀ (zz0:a0) (zz1:a1 zz0),Prop} {p:Prop} (k:∀ (zz0:a0) (zz1:a1 zz0),q zz0 zz1) (h:HidM (∀ (zz0:a0) (zz1:a1 zz0),q zz0 zz1)→p:=by intro zk;refine Z1a ?_;refine ei_i rfl rfl (wn_none rfl) (os_pull4 (os_append (E:=encI64) rfl sB_39 zv_3 rfl rfl rfl (fun w s=>(rds_row 1 rfl rfl) [] w s) rfl (by simp;omega) (by unfold maxLen;simp;omega))) rfl ?_;rintro _ _ ⟨zz0,zz1,rfl,rfl⟩;refine ⟨[_,_,_,_,_],rfl,?_⟩;exact zk.h zz0 zz1):p:=h ⟨k⟩
theorem Z22 {a0:Sort _} {a1:∀ (zz0:a0),Sort _} {a2:∀ (zz0:a0) (zz1:a1 zz0),Sort _} {q:∀ (zz0:a0) (zz1:a1 zz0) (zz2:a2 zz0 zz1),Prop} {p:Prop} (k:∀ (zz0:a0) (zz1:a1 zz0) (zz2:a2 zz0 zz1),q zz0 zz1 zz2) (h:HidM (∀ (zz0:a0) (zz1:a1 zz0) (zz2:a2 zz0 zz1),q zz0 zz1 zz2)→p:=by intro zk;refine Zt ?_;intro zz0;refine Z7h ?_;intro zz1 zz2;exact zk.h zz0 zz1 zz2):p:=h ⟨k⟩
theorem Z2m {p q:Prop} (k:q) (h:HidM q→p:=by intro zk;refine Z7q ?_;refine Z7q ?_;exact zk.h):p:=h ⟨k⟩
theorem Z29 {p q:Prop} (k:q) (h:HidM q→p:=by intro zk;refine Zd ?_;refine Z3z ?_;exact zk.h):p:=h ⟨k⟩
theorem Zc5 {p q:Prop} (k:q) (h:HidM q→p:=by intro zk;refine ol_q (wn_some rfl rfl rfl hb11 rfl) (op_ld 0 sc_42 rfl rfl (show (msgC _).toArray[36]? = some (.slice bo bits.length bc) from msgC_a36 _)) rfl ?_;refine ol_q (wn_some rfl rfl rfl hb11 rfl) (op_len_slice Tryz.underlying42 rfl) rfl ?_;exact zk.h):p:=h ⟨k⟩
theorem Zc6 {p q:Prop} (k:q) (h:HidM q→p:=by intro zk;refine ol_q (wn_some rfl rfl rfl rfl rfl) (op_ld 0 sc_42 rfl rfl (show (msgC _).toArray[36]? = some (.slice bo bits.length bc) from msgC_a36 _)) rfl ?_;refine ol_q (wn_some rfl rfl rfl rfl rfl) (op_len_slice Tryz.underlying42 rfl) rfl ?_;exact zk.h):p:=h ⟨k⟩
theorem Za8 {p q:Prop} (k:q) (h:HidM q→p:=by intro zk;refine cd_draw (M:=[]) mx [1] (by kernel_rfl) ?_;refine rg_q (wn_none rfl) (op_move (v:=.func _ _ _) rfl) rfl rfl ?_;exact zk.h):p:=h ⟨k⟩
theorem Zc7 {p q:Prop} (k:q) (h:HidM q→p:=by intro zk;refine e_q 5 rfl (wn_none rfl) (op_fielde fld_64_1 rfl ((((hr.cons _).cons _).cons _).cons _) (by omega)) ?_;refine e_q 6 rfl (wn_none rfl) (op_ldf 1 sc_9 ((((hr.cons _).cons _).cons _).cons _) rfl (by omega) rfl (valC_l1 _)) ?_;exact zk.h):p:=h ⟨k⟩
theorem Z2n {p q:Prop} (k:q) (h:HidM q→p:=by intro zk;refine Z1e ?_;refine Z1e ?_;exact zk.h):p:=h ⟨k⟩
theorem Z2g {p q:Prop} (k:q) (h:HidM q→p:=by intro zk;refine Z44 ?_;refine R6 ?_;exact zk.h):p:=h ⟨k⟩
theorem Zc8 {p q:Prop} (k:q) (h:HidM q→p:=by intro zk;refine rg_q (wn_none rfl) (op_lda 2 ag_120 rfl rfl (by rfl) (by simp)) rfl rfl ?_;refine rg_soft (wn_none rfl) cb_51 ci_51 (fun M=>os_call cb_51 rfl (fun w s=>GHeadC_calls _ _ _ _  s (rds_row 3 rfl rfl) rfl)) ?_;exact zk.h):p:=h ⟨k⟩
theorem Z3p {p q:Prop} (k:q) (h:HidM q→p:=by intro zk;refine Z89 ?_;refine Z89 ?_;exact zk.h):p:=h ⟨k⟩
theorem Z2o {p q:Prop} (k:q) (h:HidM q→p:=by intro zk;refine Zi ?_;refine R7 ?_;exact zk.h):p:=h ⟨k⟩
theorem Zd4 {p q:Prop} (k:q) (h:HidM q→p:=by intro zk;refine Zc3 ?_;refine Z4f ?_;exact zk.h):p:=h ⟨k⟩
theorem Z2z {p q:Prop} (k:q) (h:HidM q→p:=by intro zk;refine Zd4 ?_;refine Z45 ?_;exact zk.h):p:=h ⟨k⟩
theorem Zd5 {p q:Prop} (k:q) (h:HidM q→p:=by intro zk;refine Zc3 ?_;refine Z4h ?_;exact zk.h):p:=h ⟨k⟩
theorem Z30 {p q:Prop} (k:q) (h:HidM q→p:=by intro zk;refine Zd5 ?_;refine Z46 ?_;exact zk.h):p:=h ⟨k⟩
theorem Z31 {p q:Prop} (k:q) (h:HidM q→p:=by intro zk;refine Z2e ?_;refine Z2l ?_;exact zk.h):p:=h ⟨k⟩
theorem Zc9 {p q:Prop} (k:q) (h:HidM q→p:=by intro zk;refine rg_q (wn_none rfl) (op_index _ sB_184 rfl rfl rfl hr rfl (by omega)) rfl rfl ?_;refine rg_q (wn_none rfl) (op_ldaw (L:=pItemC _) ag_159 hr rfl (by omega) rfl (pItemC_ta _)) rfl rfl ?_;exact zk.h):p:=h ⟨k⟩
theorem Zca {p q:Prop} (k:q) (h:HidM q→p:=by intro zk;refine e_q 1 rfl (wn_none rfl) (op_field fld_24_0 rfl) ?_;refine e_q 2 rfl (wn_none rfl) (op_ld 3 sc_22 rfl rfl (show (cfgC _).toArray[0]? = some (.slice ao xs.length c) from cfgC_a0 _)) ?_;exact zk.h):p:=h ⟨k⟩
theorem Zcb {p q:Prop} (k:q) (h:HidM q→p:=by intro zk;refine oq (op_conv64m (39-i) Tryz.underlying25 (by rw [Tryz.underlying3];rfl) rfl (by omega) (by omega)) ?_;refine oq (op_shl_nat (A:=1) (m:=39-i) rfl rfl (by omega) (pow39 i)) ?_;exact zk.h):p:=h ⟨k⟩
theorem Zcc {p q:Prop} (k:q) (h:HidM q→p:=by intro zk;refine rg_q (wn_none rfl) (op_len_string Tryz.underlying9 rfl) rfl rfl ?_;refine rg_q (wn_none rfl) (op_conv64 Tryz.underlying41 (by rw [Tryz.underlying3];rfl) rfl (by omega)) rfl rfl ?_;exact zk.h):p:=h ⟨k⟩
theorem Z32 {p q:Prop} (k:q) (h:HidM q→p:=by intro zk;refine R2 ?_;refine Z2 ?_;exact zk.h):p:=h ⟨k⟩
theorem Z7i {p q:Prop} (k:q) (h:HidM q→p:=by intro zk;refine et_1 (i:=17) (by kernel_rfl) ?_;refine Zd ?_;exact zk.h):p:=h ⟨k⟩
theorem Z33 {p q:Prop} (k:q) (h:HidM q→p:=by intro zk;refine Z2v ?_;refine R4 ?_;exact zk.h):p:=h ⟨k⟩
theorem Z34 {p q:Prop} (k:q) (h:HidM q→p:=by intro zk;refine Z3o ?_;refine R3 ?_;exact zk.h):p:=h ⟨k⟩
theorem Za9 {p:Prop} (h:p:=by refine R4 ?_;exact px_ret1 rfl (v:=.pointer _) rfl (fun _ s=>s) ⟨_,_,rfl,rfl⟩):p:=h
theorem Z3c {p q:Prop} (k:q) (h:HidM q→p:=by intro zk;refine Z1r ?_;refine Z6d ?_;exact zk.h):p:=h ⟨k⟩
theorem Zd6 {p q:Prop} (k:q) (h:HidM q→p:=by intro zk;refine ei_i rfl rfl (wn_none rfl) (os_call cb_223 rfl (fun w s=>turn_calls (k:=18) _  s (by decide) (by decide))) rfl ?_;rintro _ _ ⟨rfl,rfl⟩;refine ⟨[_],rfl,?_⟩;refine e_q 9 rfl (wn_none rfl) (op_xor32 _ _ rfl rfl) ?_;exact zk.h):p:=h ⟨k⟩
theorem Z3d {p q:Prop} (k:q) (h:HidM q→p:=by intro zk;refine Zd6 ?_;refine e_q 12 rfl (wn_none rfl) (op_xor32 _ _ rfl rfl) ?_;exact zk.h):p:=h ⟨k⟩
theorem Zd7 {p q:Prop} (k:q) (h:HidM q→p:=by intro zk;refine ei_i rfl rfl (wn_none rfl) (os_call cb_112 rfl (fun w s=>right_calls (k:=18) _  s (by decide) (by decide))) rfl ?_;rintro _ _ ⟨rfl,rfl⟩;refine ⟨[_],rfl,?_⟩;refine e_q 14 rfl (wn_none rfl) (op_xor32 _ _ rfl rfl) ?_;exact zk.h):p:=h ⟨k⟩
theorem Z3e {p q:Prop} (k:q) (h:HidM q→p:=by intro zk;refine Zd7 ?_;refine e_q 17 rfl (wn_none rfl) (op_xor32 _ _ rfl rfl) ?_;exact zk.h):p:=h ⟨k⟩
theorem Zcd {p:Prop} (h:p:=by refine px_loop2 ((i0:Int)-1) (by omega) (by (try dsimp only);omega) ⟨rfl,trivial⟩ ?_ (fun _ s=>(by (try dsimp only);rw [←eL];exact s));exact Z0):p:=h
theorem Zce {p:Prop} (h:p:=by refine px_loop2 ((i0:Int)-1) (by omega) (by (try dsimp only);omega) ⟨rfl,trivial⟩ ?_ (fun _ s=>(by (try dsimp only);rw [←eS];exact s));exact Z0):p:=h
theorem Z47 {p q:Prop} (k:q) (h:HidM q→p:=by intro zk;refine Z4a ?_;refine Z4a ?_;exact zk.h):p:=h ⟨k⟩
theorem Zcf {p q:Prop} (k:q) (h:HidM q→p:=by intro zk;refine e_q 2 rfl (wn_none rfl) (op_slicea_all a1_35 rfl) ?_;refine e_q 3 rfl (wn_none rfl) (op_b2s sB_97 Tryz.underlying5 Tryz.underlying9 rfl (rds_root 0 rfl) (root_len _)) ?_;exact zk.h):p:=h ⟨k⟩
theorem Zcg {p q:Prop} (k:q) (h:HidM q→p:=by intro zk;refine oq (op_sidx j Tryz.underlying9 rfl rfl (by first | rfl | omega) (by omega)) ?_;refine oq (op_conv64 Tryz.underlying41 (by rw [Tryz.underlying5];rfl) rfl (by omega)) ?_;exact zk.h):p:=h ⟨k⟩
theorem Zch {p q:Prop} (k:q) (h:HidM q→p:=by intro zk;refine oq (op_index _ sB_175 rfl rfl rfl ((hr.cons _).cons _) rfl (by omega)) ?_;refine oq (op_ldaw (L:=tagC _) ag_44 ((hr.cons _).cons _) rfl (by omega) rfl (tagC_ta _)) ?_;exact zk.h):p:=h ⟨k⟩
theorem Z57 {p q:Prop} (k:q) (h:HidM q→p:=by intro zk;refine R2 ?_;refine px_blockEn rfl ?_;exact zk.h):p:=h ⟨k⟩
end Go.SL
