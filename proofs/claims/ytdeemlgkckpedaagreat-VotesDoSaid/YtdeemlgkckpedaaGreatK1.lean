import Derived.KernelRfl
set_option linter.unusedVariables false
namespace Go.SL
structure Hid (p : Prop) : Prop where
  h : p
theorem Z1 {p q : Prop} (k : q) (h : Hid q → p := by intro zk; refine cd_sr ?_; exact zk.h) : p := h ⟨k⟩
theorem Z19 {a0 : Sort _} {q : ∀ (zz0 : a0), Prop} {p : Prop} (k : ∀ (zz0 : a0), q zz0) (h : Hid (∀ (zz0 : a0), q zz0) → p := by intro zk; refine oi (os_alloc (cs := (rootC Root.zero).toArray) zB_32 (by kernel_rfl)) ?_; rintro _ _ ⟨zz0, rfl, rfl⟩; exact zk.h zz0) : p := h ⟨k⟩
theorem Z0 {p q : Prop} (k : q) (h : Hid q → p := by intro zk; refine ol_nil_then ?_; exact zk.h) : p := h ⟨k⟩
theorem Z4 {p q : Prop} (k : q) (h : Hid q → p := by intro zk; refine oq (op_move (v := .int _ _) rfl) ?_; exact zk.h) : p := h ⟨k⟩
theorem Z20 {p q : Prop} (k : q) (h : Hid q → p := by intro zk; refine oq (op_lda (L := rootC _) 0 ag_32 rfl rfl (rootC_take' _) (by simp [rootC_len])) ?_; exact zk.h) : p := h ⟨k⟩
theorem Z8 {p q : Prop} (k : q) (h : Hid q → p := by intro zk; refine ol_pull1 ?_; exact zk.h) : p := h ⟨k⟩
theorem Z2b {p q : Prop} (k : q) (h : Hid q → p := by intro zk; refine oN (os_storera _ ag_32 rfl rfl (Free.zero _)) ?_; rintro _ _ ⟨rfl, rfl⟩; exact zk.h) : p := h ⟨k⟩
theorem Z2c {a0 : Sort _} {q : ∀ (zz0 : a0), Prop} {p : Prop} (k : ∀ (zz0 : a0), q zz0) (h : Hid (∀ (zz0 : a0), q zz0) → p := by intro zk; refine oi (os_boxa rfl) ?_; rintro _ _ ⟨zz0, rfl, rfl⟩; exact zk.h zz0) : p := h ⟨k⟩
theorem Zf {p q : Prop} (k : q) (h : Hid q → p := by intro zk; refine oq (op_assign (v := .pointer _) rfl) ?_; exact zk.h) : p := h ⟨k⟩
theorem Zq {p q : Prop} (k : q) (h : Hid q → p := by intro zk; refine oq (op_assign (v := .int _ _) rfl) ?_; exact zk.h) : p := h ⟨k⟩
theorem Z7 {p q : Prop} (k : q) (h : Hid q → p := by intro zk; refine cd_seq ?_; exact zk.h) : p := h ⟨k⟩
theorem Z59 {p q : Prop} (k : q) (h : Hid q → p := by intro zk; refine oq (op_lt rfl rfl) ?_; exact zk.h) : p := h ⟨k⟩
theorem Z5 {p q : Prop} (k : q) (h : Hid q → p := by intro zk; refine oq (op_move (v := .bool _) rfl) ?_; exact zk.h) : p := h ⟨k⟩
theorem Z3l {p q : Prop} (k : q) (h : Hid q → p := by intro zk; refine ol_skip (wn_some rfl rfl rfl hb1 rfl) rfl ?_; exact zk.h) : p := h ⟨k⟩
theorem Z2d {p q : Prop} (k : q) (h : Hid q → p := by intro zk; refine oq (op_pick_t (v := .bool _) rfl hb1 rfl) ?_; exact zk.h) : p := h ⟨k⟩
theorem Z3r {p q : Prop} (k : q) (h : Hid q → p := by intro zk; refine ol_skip (wn_some rfl rfl rfl rfl rfl) rfl ?_; exact zk.h) : p := h ⟨k⟩
theorem Z66 {p q : Prop} (k : q) (h : Hid q → p := by intro zk; refine oq (op_pick_t (v := .bool _) rfl rfl rfl) ?_; exact zk.h) : p := h ⟨k⟩
theorem Z3s {p q : Prop} (k : q) (h : Hid q → p := by intro zk; refine cd_cond_t rfl rfl ?_; exact zk.h) : p := h ⟨k⟩
theorem Zs {p q : Prop} (k : q) (h : Hid q → p := by intro zk; refine px_thenR ?_; exact zk.h) : p := h ⟨k⟩
theorem Z9x {p : Prop} (h : p := by exact px_ret2 rfl (v1 := .pointer _) (v2 := .int _ _) rfl rfl (fun _ s => (s.del 0)) (.inl ⟨rfl, rfl, by omega⟩)) : p := h
theorem Z30 {p q : Prop} (k : q) (h : Hid q → p := by intro zk; refine ol_q (wn_some rfl rfl rfl hb1 rfl) (op_move (v := .int _ _) rfl) rfl ?_; exact zk.h) : p := h ⟨k⟩
theorem Z8w {p q : Prop} (k : q) (h : Hid q → p := by intro zk; refine ol_q (wn_some rfl rfl rfl hb1 rfl) (op_gt rfl rfl) rfl ?_; exact zk.h) : p := h ⟨k⟩
theorem Z21 {p q : Prop} (k : q) (h : Hid q → p := by intro zk; refine oq (op_pick_f (v := .bool _) rfl hb1 rfl) ?_; exact zk.h) : p := h ⟨k⟩
theorem Z5r {p q : Prop} (k : q) (h : Hid q → p := by intro zk; refine ol_skip (wn_some rfl rfl rfl hb2 rfl) rfl ?_; exact zk.h) : p := h ⟨k⟩
theorem Z39 {p q : Prop} (k : q) (h : Hid q → p := by intro zk; refine oq (op_pick_t (v := .bool _) rfl hb2 rfl) ?_; exact zk.h) : p := h ⟨k⟩
theorem Z47 {p q : Prop} (k : q) (h : Hid q → p := by intro zk; refine ol_q (wn_some rfl rfl rfl hb2 rfl) (op_move (v := .int _ _) rfl) rfl ?_; exact zk.h) : p := h ⟨k⟩
theorem Z8x {p q : Prop} (k : q) (h : Hid q → p := by intro zk; refine ol_q (wn_some rfl rfl rfl hb2 rfl) (op_lt rfl rfl) rfl ?_; exact zk.h) : p := h ⟨k⟩
theorem Z2q {p q : Prop} (k : q) (h : Hid q → p := by intro zk; refine oq (op_pick_f (v := .bool _) rfl hb2 rfl) ?_; exact zk.h) : p := h ⟨k⟩
theorem Z9y {p q : Prop} (k : q) (h : Hid q → p := by intro zk; refine ol_skip (wn_some rfl rfl rfl hb3 rfl) rfl ?_; exact zk.h) : p := h ⟨k⟩
theorem Z48 {p q : Prop} (k : q) (h : Hid q → p := by intro zk; refine oq (op_pick_t (v := .bool _) rfl hb3 rfl) ?_; exact zk.h) : p := h ⟨k⟩
theorem Z5a {p q : Prop} (k : q) (h : Hid q → p := by intro zk; refine ol_q (wn_some rfl rfl rfl hb3 rfl) (op_move (v := .int _ _) rfl) rfl ?_; exact zk.h) : p := h ⟨k⟩
theorem Z67 {p q : Prop} (k : q) (h : Hid q → p := by intro zk; refine ol_q (wn_some rfl rfl rfl hb3 rfl) (op_gt rfl rfl) rfl ?_; exact zk.h) : p := h ⟨k⟩
theorem Z4w {p q : Prop} (k : q) (h : Hid q → p := by intro zk; refine oq (op_pick_f (v := .bool _) rfl hb3 rfl) ?_; exact zk.h) : p := h ⟨k⟩
theorem Z78 {p q : Prop} (k : q) (h : Hid q → p := by intro zk; refine e_q 1 rfl (wn_none rfl) (op_move (v := .int _ _) rfl) ?_; exact zk.h) : p := h ⟨k⟩
theorem Z2e {p q : Prop} (k : q) (h : Hid q → p := by intro zk; refine et_1 (i := 4) (by kernel_rfl) ?_; exact zk.h) : p := h ⟨k⟩
theorem Z1r {p q : Prop} (k : q) (h : Hid q → p := by intro zk; refine et_1 (i := 6) (by kernel_rfl) ?_; exact zk.h) : p := h ⟨k⟩
theorem Zc0 {p q : Prop} (k : q) (h : Hid q → p := by intro zk; refine e_q 9 rfl (wn_none rfl) (op_build (L := [_, _, _]) (vs := [(0, .slice _ _ _), (1, .map _), (2, .int _ _)]) bB_100 rfl ⟨⟨rfl, rfl⟩, ⟨rfl, rfl⟩, ⟨rfl, rfl⟩, trivial⟩ rfl) ?_; exact zk.h) : p := h ⟨k⟩
theorem Z1e {p q : Prop} (k : q) (h : Hid q → p := by intro zk; refine et_1 (i := 10) (by kernel_rfl) ?_; exact zk.h) : p := h ⟨k⟩
theorem Zy {p q : Prop} (k : q) (h : Hid q → p := by intro zk; refine et_nil_then (by kernel_rfl) ?_; exact zk.h) : p := h ⟨k⟩
theorem Zcz {p : Prop} (h : p := by exact px_ret2 rfl (v1 := .pointer _) (v2 := .int _ _) (l' := TreeObj _ (TreeS.new r slot most) :: l) rfl rfl (fun _ s => Sat.treeMk (t := TreeS.new r slot most) (TreeS.WF.new (by omega) (by omega) (by omega) (by omega)) rfl ((((s.del 3).pull 1).pull 2).pull 2)) (.inr ⟨_, rfl, by omega, rfl⟩)) : p := h
theorem Z6q {p q : Prop} (k : q) (h : Hid q → p := by intro zk; refine et_1 (i := 3) (by kernel_rfl) ?_; exact zk.h) : p := h ⟨k⟩
theorem Z1j {p q : Prop} (k : q) (h : Hid q → p := by intro zk; refine oq (op_move (v := .pointer _) rfl) ?_; exact zk.h) : p := h ⟨k⟩
theorem Z6r {p q : Prop} (k : q) (h : Hid q → p := by intro zk; refine oq (op_eqnil Tryz.underlying40 rfl rfl) ?_; exact zk.h) : p := h ⟨k⟩
theorem Z68 {p q : Prop} (k : q) (h : Hid q → p := by intro zk; refine cd_cond_f rfl rfl ?_; exact zk.h) : p := h ⟨k⟩
theorem Z79 {p q : Prop} (k : q) (h : Hid q → p := by intro zk; refine cd_draw (M := []) mx [] (by kernel_rfl) ?_; exact zk.h) : p := h ⟨k⟩
theorem Zi {p q : Prop} (k : q) (h : Hid q → p := by intro zk; refine rg_q (wn_none rfl) (op_move (v := .pointer _) rfl) rfl rfl ?_; exact zk.h) : p := h ⟨k⟩
theorem Z8y {p q : Prop} (k : q) (h : Hid q → p := by intro zk; refine rg_q (wn_none rfl) (op_nilck rfl) rfl rfl ?_; exact zk.h) : p := h ⟨k⟩
theorem Z9z {p q : Prop} (k : q) (h : Hid q → p := by intro zk; refine rg_q (wn_none rfl) (op_field fld_100_1 rfl) rfl rfl ?_; exact zk.h) : p := h ⟨k⟩
theorem Z1a {p q : Prop} (k : q) (h : Hid q → p := by intro zk; refine rg_q (wn_none rfl) (op_lda (L := rootC _) 0 ag_32 rfl rfl (rootC_take' _) (by simp [rootC_len])) rfl rfl ?_; exact zk.h) : p := h ⟨k⟩
theorem Z5b {p q : Prop} (k : q) (h : Hid q → p := by intro zk; refine rg_q (wn_none rfl) (op_move (v := .tuple _) rfl) rfl rfl ?_; exact zk.h) : p := h ⟨k⟩
theorem Z8z {p q : Prop} (k : q) (h : Hid q → p := by intro zk; refine rg_q (wn_none rfl) (op_extract (v := .int _ _) rfl rfl) rfl rfl ?_; exact zk.h) : p := h ⟨k⟩
theorem Z6s {p q : Prop} (k : q) (h : Hid q → p := by intro zk; refine rg_q (wn_none rfl) (op_extract (v := .bool _) rfl rfl) rfl rfl ?_; exact zk.h) : p := h ⟨k⟩
theorem Z31 {p q : Prop} (k : q) (h : Hid q → p := by intro zk; refine rg_q (wn_none rfl) (op_assign (v := .int _ _) rfl) rfl rfl ?_; exact zk.h) : p := h ⟨k⟩
theorem Z2r {p q : Prop} (k : q) (h : Hid q → p := by intro zk; refine rg_q (wn_none rfl) (op_assign (v := .bool _) rfl) rfl rfl ?_; exact zk.h) : p := h ⟨k⟩
theorem Zz {p q : Prop} (k : q) (h : Hid q → p := by intro zk; refine rg_nil_then0 ?_; exact zk.h) : p := h ⟨k⟩
theorem Zd0 {p : Prop} (h : p := by exact px_ret1 rfl (v := .int _ _) (l' := TreeObj p t :: l) rfl (fun _ s => Sat.treeMk hw rfl (s.del 0)) ⟨congrArg (Value.int .i64) (by unfold TreeS.place; rw [hlk]), rfl⟩) : p := h
theorem Z5c {a0 : Sort _} {q : ∀ (zz0 : a0), Prop} {p : Prop} (k : ∀ (zz0 : a0), q zz0) (h : Hid (∀ (zz0 : a0), q zz0) → p := by intro zk; refine oi (os_alloc (cs := (nodeC Node.zero).toArray) zB_77 (by kernel_rfl)) ?_; rintro _ _ ⟨zz0, rfl, rfl⟩; exact zk.h zz0) : p := h ⟨k⟩
theorem Z7a {p q : Prop} (k : q) (h : Hid q → p := by intro zk; refine oq (op_pick_f (v := .bool _) rfl rfl rfl) ?_; exact zk.h) : p := h ⟨k⟩
theorem Z49 {p q : Prop} (k : q) (h : Hid q → p := by intro zk; refine oN (os_storew (nodeC _) ag_77 rfl rfl (nodeC_len _) (nodeC_one _) (by simp [nodeC_len]) (Free.zero _)) ?_; rintro _ _ ⟨rfl, rfl⟩; exact zk.h) : p := h ⟨k⟩
theorem Zc1 {p : Prop} (h : p := by exact px_rv2 rfl (rv_cella 0 ag_77 rfl rfl (nodeC_ta _) (by simp [nodeC_len])) (rv_tmp (v := .bool _) rfl) (fun _ s => Sat.treeMk hw rfl (s.del 0)) ⟨rfl, rfl⟩) : p := h
theorem Z5d {p q : Prop} (k : q) (h : Hid q → p := by intro zk; refine ol_q (wn_some rfl rfl rfl hb1 rfl) (op_move (v := .pointer _) rfl) rfl ?_; exact zk.h) : p := h ⟨k⟩
theorem Z5s {p q : Prop} (k : q) (h : Hid q → p := by intro zk; refine ol_q (wn_some rfl rfl rfl hb1 rfl) (op_nilck rfl) rfl ?_; exact zk.h) : p := h ⟨k⟩
theorem Zj {p q : Prop} (k : q) (h : Hid q → p := by intro zk; refine oq (op_nilck rfl) ?_; exact zk.h) : p := h ⟨k⟩
theorem Z90 {p q : Prop} (k : q) (h : Hid q → p := by intro zk; refine rg_q (wn_none rfl) (op_ld 0 sc_3 rfl rfl rfl) rfl rfl ?_; exact zk.h) : p := h ⟨k⟩
theorem Z7b {p q : Prop} (k : q) (h : Hid q → p := by intro zk; refine rg_q (wn_none rfl) (op_sub rfl rfl (by omega) (by omega)) rfl rfl ?_; exact zk.h) : p := h ⟨k⟩
theorem Za0 {p q : Prop} (k : q) (h : Hid q → p := by intro zk; refine oi (os_call cb_30 rfl (fun w s => Place_calls _ _ _  s )) ?_; rintro _ _ ⟨rfl, rfl⟩; exact zk.h) : p := h ⟨k⟩
theorem Z3a {p q : Prop} (k : q) (h : Hid q → p := by intro zk; refine oq (op_move (v := .tuple _) rfl) ?_; exact zk.h) : p := h ⟨k⟩
theorem Z5e {p q : Prop} (k : q) (h : Hid q → p := by intro zk; refine oq (op_extract (v := .bool _) rfl rfl) ?_; exact zk.h) : p := h ⟨k⟩
theorem Z69 {p q : Prop} (k : q) (h : Hid q → p := by intro zk; refine oq (op_ge rfl rfl) ?_; exact zk.h) : p := h ⟨k⟩
theorem Z91 {p : Prop} (h : p := by exact px_ret1 rfl (v := .int _ _) (l' := TreeObj p t :: l) rfl (fun _ s => (((s.del 3).del 2).del 1)) ⟨rfl, rfl⟩) : p := h
theorem Z3m {p q : Prop} (k : q) (h : Hid q → p := by intro zk; refine oq (op_not rfl) ?_; exact zk.h) : p := h ⟨k⟩
theorem Zb {p q : Prop} (k : q) (h : Hid q → p := by intro zk; refine rg_q (wn_none rfl) (op_move (v := .int _ _) rfl) rfl rfl ?_; exact zk.h) : p := h ⟨k⟩
theorem Zu {p q : Prop} (k : q) (h : Hid q → p := by intro zk; refine ol_pull3 ?_; exact zk.h) : p := h ⟨k⟩
theorem Za1 {p q : Prop} (k : q) (h : Hid q → p := by intro zk; refine rg_q (wn_none rfl) (op_aidx0 _ a1_32 rfl rfl rfl (by omega)) rfl rfl ?_; exact zk.h) : p := h ⟨k⟩
theorem Z5f {p q : Prop} (k : q) (h : Hid q → p := by intro zk; refine rg_q (wn_none rfl) (op_lt rfl rfl) rfl rfl ?_; exact zk.h) : p := h ⟨k⟩
theorem Z22 {p q : Prop} (k : q) (h : Hid q → p := by intro zk; refine cd_region ?_; exact zk.h) : p := h ⟨k⟩
theorem Za2 {p q : Prop} (k : q) (h : Hid q → p := by intro zk; refine oq (op_add rfl rfl (by omega) (by omega)) ?_; exact zk.h) : p := h ⟨k⟩
theorem Z2 {p : Prop} (h : p := by repeat (first | exact kept_over | refine kept_upd rfl ?_ | refine kept_overS (by decide) ?_)) : p := h
theorem Z5g {p q : Prop} (k : q) (h : Hid q → p := by intro zk; refine rg_q (wn_none rfl) (op_move (v := .bool _) rfl) rfl rfl ?_; exact zk.h) : p := h ⟨k⟩
theorem Za3 {p q : Prop} (k : q) (h : Hid q → p := by intro zk; refine rg_skip (wn_some rfl rfl rfl hb1 rfl) rfl ?_; exact zk.h) : p := h ⟨k⟩
theorem Za4 {p q : Prop} (k : q) (h : Hid q → p := by intro zk; refine rg_skip (wn_some rfl rfl rfl hb2 rfl) rfl ?_; exact zk.h) : p := h ⟨k⟩
theorem Za5 {p q : Prop} (k : q) (h : Hid q → p := by intro zk; refine oq (op_lda (L := rootC _) 0 ag_32 rfl rfl (nodeC_af0 _) (by simp [nodeC_len])) ?_; exact zk.h) : p := h ⟨k⟩
theorem Za6 {p q : Prop} (k : q) (h : Hid q → p := by intro zk; refine rg_q (wn_none rfl) (op_ld 0 sc_54 rfl rfl rfl) rfl rfl ?_; exact zk.h) : p := h ⟨k⟩
theorem Za7 {p q : Prop} (k : q) (h : Hid q → p := by intro zk; refine rg_q (wn_none rfl) (op_field fld_129_0 rfl) rfl rfl ?_; exact zk.h) : p := h ⟨k⟩
theorem Z3b {p q : Prop} (k : q) (h : Hid q → p := by intro zk; refine e_q 0 rfl (wn_none rfl) (op_move (v := .pointer _) rfl) ?_; exact zk.h) : p := h ⟨k⟩
theorem Za8 {p q : Prop} (k : q) (h : Hid q → p := by intro zk; refine e_q 1 rfl (wn_none rfl) (op_move (v := .pointer _) rfl) ?_; exact zk.h) : p := h ⟨k⟩
theorem Z92 {p q : Prop} (k : q) (h : Hid q → p := by intro zk; refine e_q 2 rfl (wn_none rfl) (op_move (v := .pointer _) rfl) ?_; exact zk.h) : p := h ⟨k⟩
theorem Z6a {p q : Prop} (k : q) (h : Hid q → p := by intro zk; refine ei_i rfl rfl (wn_none rfl) (os_q (op_ld 0 sc_54 rfl rfl rfl)) rfl ?_; rintro _ _ ⟨rfl, rfl⟩; refine ⟨[_, _, _], rfl, ?_⟩; exact zk.h) : p := h ⟨k⟩
theorem Z23 {a0 : Sort _} {q : ∀ (zz0 : a0), Prop} {p : Prop} (k : ∀ (zz0 : a0), q zz0) (h : Hid (∀ (zz0 : a0), q zz0) → p := by intro zk; refine ei_i rfl rfl (wn_none rfl) (os_bslice (E := encI64) [_] (ys := [_]) sB_54 zv_3 rfl rfl rfl rfl (by decide)) rfl ?_; rintro _ _ ⟨zz0, rfl, rfl⟩; refine ⟨[_, _, _, _], rfl, ?_⟩; exact zk.h zz0) : p := h ⟨k⟩
theorem Z32 {a0 : Sort _} {a1 : ∀ (zz0 : a0), Sort _} {q : ∀ (zz0 : a0) (zz1 : a1 zz0), Prop} {p : Prop} (k : ∀ (zz0 : a0) (zz1 : a1 zz0), q zz0 zz1) (h : Hid (∀ (zz0 : a0) (zz1 : a1 zz0), q zz0 zz1) → p := by intro zk; refine ei_i rfl rfl (wn_none rfl) (os_pull2 (os_append (E := encI64) rfl sB_54 zv_3 rfl rfl rfl (fun w s => (rds_row 1 rfl rfl) [] w s) rfl (by simp; omega) (by unfold maxLen; simp; omega))) rfl ?_; rintro _ _ ⟨zz0, zz1, rfl, rfl⟩; refine ⟨[_, _, _, _], rfl, ?_⟩; exact zk.h zz0 zz1) : p := h ⟨k⟩
theorem Za9 {p q : Prop} (k : q) (h : Hid q → p := by intro zk; refine ei_i rfl rfl (wn_none rfl) (os_q (op_ld 2 sc_54 rfl rfl rfl)) rfl ?_; rintro _ _ ⟨rfl, rfl⟩; refine ⟨[_, _, _, _], rfl, ?_⟩; exact zk.h) : p := h ⟨k⟩
theorem Z1w {p q : Prop} (k : q) (h : Hid q → p := by intro zk; refine et_1 (i := 12) (by kernel_rfl) ?_; exact zk.h) : p := h ⟨k⟩
theorem Z1d {a0 : Sort _} {q : ∀ (zz0 : a0), Prop} {p : Prop} (k : ∀ (zz0 : a0), q zz0) (h : Hid (∀ (zz0 : a0), q zz0) → p := by intro zk; refine ei_i rfl rfl (wn_none rfl) (os_bslice (E := encI64) [_] (ys := [_]) sB_54 zv_3 rfl rfl rfl rfl (by decide)) rfl ?_; rintro _ _ ⟨zz0, rfl, rfl⟩; refine ⟨[_, _, _, _, _], rfl, ?_⟩; exact zk.h zz0) : p := h ⟨k⟩
theorem Z5t {p q : Prop} (k : q) (h : Hid q → p := by intro zk; refine et_1 (i := 13) (by kernel_rfl) ?_; exact zk.h) : p := h ⟨k⟩
theorem Z3t {p q : Prop} (k : q) (h : Hid q → p := by intro zk; refine et_1 (i := 16) (by kernel_rfl) ?_; exact zk.h) : p := h ⟨k⟩
theorem Z5h {p q : Prop} (k : q) (h : Hid q → p := by intro zk; refine et_nil (by kernel_rfl) ?_; exact zk.h) : p := h ⟨k⟩
theorem Z3 {p : Prop} (h : p := by repeat (first | exact kept_self | exact kept_over | refine kept_upd rfl ?_ | refine kept_overS (by decide) ?_)) : p := h
theorem Z2n {p q : Prop} (k : q) (h : Hid q → p := by intro zk; refine et_1 (i := 11) (by kernel_rfl) ?_; exact zk.h) : p := h ⟨k⟩
theorem Z1k {p q : Prop} (k : q) (h : Hid q → p := by intro zk; refine ei_i rfl rfl (wn_none rfl) (os_q (op_ld 1 sc_54 rfl rfl rfl)) rfl ?_; rintro _ _ ⟨rfl, rfl⟩; refine ⟨[_, _, _, _], rfl, ?_⟩; exact zk.h) : p := h ⟨k⟩
theorem Z3u {p q0 q1 : Prop} (k0 : q0) (k1 : q1) (h : Hid q0 → Hid q1 → p := by intro zk0 zk1; refine et_2 (i1 := 7) (i2 := 12) (by kernel_rfl) ?_ ?_; exact zk0.h; exact zk1.h) : p := h ⟨k0⟩ ⟨k1⟩
theorem Z1b {p q : Prop} (k : q) (h : Hid q → p := by intro zk; refine et_1 (i := 7) (by kernel_rfl) ?_; exact zk.h) : p := h ⟨k⟩
theorem Z6t {a0 : Sort _} {a1 : ∀ (zz0 : a0), Sort _} {q : ∀ (zz0 : a0) (zz1 : a1 zz0), Prop} {p : Prop} (k : ∀ (zz0 : a0) (zz1 : a1 zz0), q zz0 zz1) (h : Hid (∀ (zz0 : a0) (zz1 : a1 zz0), q zz0 zz1) → p := by intro zk; refine ei_i rfl rfl (wn_none rfl) (os_pull3 (os_append (E := encI64) rfl sB_54 zv_3 rfl rfl rfl (fun w s => (rds_row 2 rfl rfl) [] w s) rfl (by simp; omega) (by unfold maxLen; simp; omega))) rfl ?_; rintro _ _ ⟨zz0, zz1, rfl, rfl⟩; refine ⟨[_, _, _, _, _], rfl, ?_⟩; exact zk.h zz0 zz1) : p := h ⟨k⟩
theorem Z4a {p q0 q1 : Prop} (k0 : q0) (k1 : q1) (h : Hid q0 → Hid q1 → p := by intro zk0 zk1; refine et_2 (i1 := 7) (i2 := 11) (by kernel_rfl) ?_ ?_; exact zk0.h; exact zk1.h) : p := h ⟨k0⟩ ⟨k1⟩
theorem Z5u {p q : Prop} (k : q) (h : Hid q → p := by intro zk; refine ei_i rfl rfl (wn_none rfl) (os_q (op_ld 2 sc_54 rfl rfl rfl)) rfl ?_; rintro _ _ ⟨rfl, rfl⟩; refine ⟨[_, _, _, _, _], rfl, ?_⟩; exact zk.h) : p := h ⟨k⟩
theorem Z6u {a0 : Sort _} {a1 : ∀ (zz0 : a0), Sort _} {q : ∀ (zz0 : a0) (zz1 : a1 zz0), Prop} {p : Prop} (k : ∀ (zz0 : a0) (zz1 : a1 zz0), q zz0 zz1) (h : Hid (∀ (zz0 : a0) (zz1 : a1 zz0), q zz0 zz1) → p := by intro zk; refine ei_i rfl rfl (wn_none rfl) (os_pull3 (os_append (E := encI64) rfl sB_54 zv_3 rfl rfl rfl (fun w s => (rds_row 1 rfl rfl) [] w s) rfl (by simp; omega) (by unfold maxLen; simp; omega))) rfl ?_; rintro _ _ ⟨zz0, zz1, rfl, rfl⟩; refine ⟨[_, _, _, _, _], rfl, ?_⟩; exact zk.h zz0 zz1) : p := h ⟨k⟩
theorem Z5i {p q : Prop} (k : q) (h : Hid q → p := by intro zk; refine et_1 (i := 5) (by kernel_rfl) ?_; exact zk.h) : p := h ⟨k⟩
theorem Z4b {p q : Prop} (k : q) (h : Hid q → p := by intro zk; refine oq (op_len_slice Tryz.underlying54 rfl) ?_; exact zk.h) : p := h ⟨k⟩
theorem Zd1 {p q : Prop} (k : q) (h : Hid q → p := by intro zk; refine rg_i (wn_none rfl) (os_q (op_index i1 sB_54 rfl rfl rfl (rds_row 1 rfl rfl) (by first | rfl | (rw [tab_len]; omega) | (rw [hbl]; omega)) (by rw [tab_len]; omega))) rfl rfl ?_; rintro _ _ ⟨rfl, rfl⟩; refine ⟨[_, _], rfl, ?_⟩; exact zk.h) : p := h ⟨k⟩
theorem Zd2 {p q : Prop} (k : q) (h : Hid q → p := by intro zk; refine rg_iN (wn_none rfl) (os_pull1 (os_stsw  sc_3 rfl rfl rfl (by rw [tab_len]; omega) rfl rfl)) rfl ?_; rintro _ _ ⟨rfl, rfl⟩; refine ⟨[_, _], rfl, ?_⟩; exact zk.h) : p := h ⟨k⟩
theorem Z3c {p q : Prop} (k : q) (h : Hid q → p := by intro zk; refine oq (op_sub rfl rfl (by omega) (by omega)) ?_; exact zk.h) : p := h ⟨k⟩
theorem Zaa {p q : Prop} (k : q) (h : Hid q → p := by intro zk; refine rg_q (wn_none rfl) (op_ld 2 sc_54 rfl rfl rfl) rfl rfl ?_; exact zk.h) : p := h ⟨k⟩
theorem Z1f {p q : Prop} (k : q) (h : Hid q → p := by intro zk; refine oq (op_assign (v := .slice _ _ _) rfl) ?_; exact zk.h) : p := h ⟨k⟩
theorem Zg {p q : Prop} (k : q) (h : Hid q → p := by intro zk; refine oq (op_move (v := .slice _ _ _) rfl) ?_; exact zk.h) : p := h ⟨k⟩
theorem Zc2 {p q : Prop} (k : q) (h : Hid q → p := by intro zk; refine rg_i (wn_none rfl) (os_call cb_30 rfl (fun w s => Place_calls _ _ _  s )) rfl rfl ?_; rintro _ _ ⟨rfl, rfl⟩; refine ⟨[_], rfl, ?_⟩; exact zk.h) : p := h ⟨k⟩
theorem Zd3 {p : Prop} (h : p := by exact px_ret2 rfl (v1 := .slice none 0 0) (v2 := .int _ 1) (l' := Row 3 encI64 (.slice none ([] : List Int).length 0) [] :: TreeObj pt t :: WRaw pw pt o sm be lf :: l) rfl rfl (fun _ s => Sat.rowNil ((Sat.wrawMk rfl rfl rfl rfl (((((((s.del 2).del 1).pull 5).pull 5).pull 5).pull 5).pull 5)).pull 1)) ⟨[], none, 0, by rw [hnx]; rfl, rfl, fun h => by rw [hnx] at h; cases h⟩) : p := h
theorem Z5j {p q : Prop} (k : q) (h : Hid q → p := by intro zk; refine rg_q (wn_none rfl) (op_move (v := .slice _ _ _) rfl) rfl rfl ?_; exact zk.h) : p := h ⟨k⟩
theorem Zd4 {p q : Prop} (k : q) (h : Hid q → p := by intro zk; refine rg_i (wn_none rfl) (os_q (op_index j0 sB_54 rfl rfl hpj (rds_row 2 rfl rfl) (by simp; omega) (by omega))) rfl rfl ?_; rintro _ _ ⟨rfl, rfl⟩; refine ⟨[], rfl, ?_⟩; exact zk.h) : p := h ⟨k⟩
theorem Z6v {p q : Prop} (k : q) (h : Hid q → p := by intro zk; refine rg_q (wn_none rfl) (op_add rfl rfl (by omega) (by omega)) rfl rfl ?_; exact zk.h) : p := h ⟨k⟩
theorem Z93 {p q : Prop} (k : q) (h : Hid q → p := by intro zk; refine ol_skip (wn_some rfl rfl rfl hb5 rfl) rfl ?_; exact zk.h) : p := h ⟨k⟩
theorem Zd5 {p : Prop} (h : p := by exact px_ret2 rfl (v1 := .slice none 0 0) (v2 := .int _ 1) (l' := Row 3 encI64 (.slice none ([] : List Int).length 0) [] :: TreeObj pt t :: WRaw pw pt o sm be lf :: l) rfl rfl (fun _ s => Sat.rowNil ((Sat.wrawMk rfl rfl rfl rfl (((((((s.del 2).del 0).pull 5).pull 5).pull 5).pull 5).pull 5)).pull 1)) ⟨[], none, 0, by rw [hnx]; rfl, rfl, fun h => by rw [hnx] at h; cases h⟩) : p := h
theorem Z3v {p q : Prop} (k : q) (h : Hid q → p := by intro zk; refine oq (op_extract (v := .int _ _) rfl rfl) ?_; exact zk.h) : p := h ⟨k⟩
theorem Z4x {p q : Prop} (k : q) (h : Hid q → p := by intro zk; refine oq (op_eq rfl rfl) ?_; exact zk.h) : p := h ⟨k⟩
theorem Z2f {p q : Prop} (k : q) (h : Hid q → p := by intro zk; refine ol_pull6 ?_; exact zk.h) : p := h ⟨k⟩
theorem Zc3 {p q : Prop} (k : q) (h : Hid q → p := by intro zk; refine oN (os_store (v := .slice _ _ _) sc_54 rfl rfl rfl rfl (Free.zero _) rfl) ?_; rintro _ _ ⟨rfl, rfl⟩; exact zk.h) : p := h ⟨k⟩
theorem Z5v {p q : Prop} (k : q) (h : Hid q → p := by intro zk; refine cd_draw (M := [_]) mx [5] (by kernel_rfl) ?_; exact zk.h) : p := h ⟨k⟩
theorem Z94 {p q : Prop} (k : q) (h : Hid q → p := by intro zk; refine rg_q (wn_none rfl) (op_ld 1 sc_40 rfl rfl rfl) rfl rfl ?_; exact zk.h) : p := h ⟨k⟩
theorem Z6w {p q : Prop} (k : q) (h : Hid q → p := by intro zk; refine ol_q (wn_some rfl rfl rfl hb1 rfl) (op_lt rfl rfl) rfl ?_; exact zk.h) : p := h ⟨k⟩
theorem Zab {p : Prop} (h : p := by exact px_ret1 rfl (v := .int _ _) (l' := TreeObj pt t :: WRaw pw pt o sm be lf :: Blk b (.cells #[.pointer (some ⟨pw, 0, none⟩)] 70 (0, 0)) :: l) rfl (fun _ s => ((Sat.wrawMk rfl rfl rfl rfl ((((((((s.del 1).pull 6).pull 1).pull 6).pull 6).pull 6).pull 6).pull 6)).pull 1)) ⟨congrArg (Value.int .i64) ((ofF_no (by omega)).symm), rfl⟩) : p := h
theorem Z6b {p q : Prop} (k : q) (h : Hid q → p := by intro zk; refine e_q 1 rfl (wn_none rfl) (op_nilck rfl) ?_; exact zk.h) : p := h ⟨k⟩
theorem Z6x {p q : Prop} (k : q) (h : Hid q → p := by intro zk; refine et_1 (i := 14) (by kernel_rfl) ?_; exact zk.h) : p := h ⟨k⟩
theorem Z4y {p q : Prop} (k : q) (h : Hid q → p := by intro zk; refine et_1 (i := 15) (by kernel_rfl) ?_; exact zk.h) : p := h ⟨k⟩
theorem Zd6 {p : Prop} (h : p := by exact px_rv1 rfl (rv_cella 0 ag_32 rfl rfl (rootC_take' _) (by simp [rootC_len])) (l' := TreeObj pt t :: WObj pw pt t.nodes o :: l) (fun _ s => ((Sat.wrawMk rfl rfl rfl rfl (((((((s.del 1).del 0).pull 5).pull 5).pull 5).pull 5).pull 5)).pull 1)) ⟨rfl, rfl⟩) : p := h
theorem Zo {p q : Prop} (k : q) (h : Hid q → p := by intro zk; refine et_1 (i := 8) (by kernel_rfl) ?_; exact zk.h) : p := h ⟨k⟩
theorem Zac {p : Prop} (h : p := by exact px_ret2 rfl (v1 := .pointer _) (v2 := .bool _) rfl rfl (fun _ s => (s.del 0)) (.inl ⟨rfl, rfl, by omega⟩)) : p := h
theorem Z95 {a0 : Sort _} {q : ∀ (zz0 : a0), Prop} {p : Prop} (k : ∀ (zz0 : a0), q zz0) (h : Hid (∀ (zz0 : a0), q zz0) → p := by intro zk; refine oi (os_bslice (E := encI64) [_] (ys := [_]) sB_54 zv_3 rfl rfl rfl rfl (by decide)) ?_; rintro _ _ ⟨zz0, rfl, rfl⟩; exact zk.h zz0) : p := h ⟨k⟩
theorem Z5w {p q : Prop} (k : q) (h : Hid q → p := by intro zk; refine oq (op_buildr rfl rB_32 zBr_32) ?_; exact zk.h) : p := h ⟨k⟩
theorem Z96 {p q : Prop} (k : q) (h : Hid q → p := by intro zk; refine oq (op_field fld_56_0 rfl) ?_; exact zk.h) : p := h ⟨k⟩
theorem Z6c {p q : Prop} (k : q) (h : Hid q → p := by intro zk; refine oq (op_len_slice Tryz.underlying52 rfl) ?_; exact zk.h) : p := h ⟨k⟩
theorem Zd7 {p q : Prop} (k : q) (h : Hid q → p := by intro zk; refine cd_loop2 (α := Nat) [(4, 6), (12, 21)] (fun x => [(12, .int .i64 (x : Int))]) (fun _ => _) (fun x => x ≤ R.length ∧ ∀ j (h : j < R.length), j < x → R[j] ≠ r) (fun x => R.length - x) 0 ⟨Nat.zero_le _, fun j h h2 => absurd h2 (Nat.not_lt_zero _)⟩ ⟨rfl, trivial⟩ (fun _ s => s) ?_; exact zk.h) : p := h ⟨k⟩
theorem Z97 {p q : Prop} (k : q) (h : Hid q → p := by intro zk; refine oq (op_ldaw (L := rootC _) ag_32 (rds_row 2 rfl rfl) rfl (by omega) rfl (rootC_ta _)) ?_; exact zk.h) : p := h ⟨k⟩
theorem Z7c {p q : Prop} (k : q) (h : Hid q → p := by intro zk; refine oq (op_lda (L := rootC _) 1 ag_32 rfl rfl (rootC_take' _) (by simp [rootC_len])) ?_; exact zk.h) : p := h ⟨k⟩
theorem Zc4 {p : Prop} (h : p := by exact px_ret1 rfl (v := .int _ _) rfl (fun _ s => s) ⟨congrArg (Value.int .i64) e.symm, rfl⟩) : p := h
theorem Z98 {p : Prop} (h : p := by exact px_ret1 rfl (v := .int _ _) (l' := RTreeObj p t :: l) rfl (fun _ s => Sat.rtreeMk (t := t) hw hR (by simp) (by simp) (by simp) ((s.del 3).del 2)) ⟨rfl, rfl⟩) : p := h
theorem Zad {p q : Prop} (k : q) (h : Hid q → p := by intro zk; refine ol_q (wn_some rfl rfl rfl hb2 rfl) (op_move (v := .pointer _) rfl) rfl ?_; exact zk.h) : p := h ⟨k⟩
theorem Zae {p q : Prop} (k : q) (h : Hid q → p := by intro zk; refine ol_q (wn_some rfl rfl rfl hb2 rfl) (op_nilck rfl) rfl ?_; exact zk.h) : p := h ⟨k⟩
theorem Z7d {p q : Prop} (k : q) (h : Hid q → p := by intro zk; refine rg_q (wn_none rfl) (op_field fld_56_0 rfl) rfl rfl ?_; exact zk.h) : p := h ⟨k⟩
theorem Z7e {p q : Prop} (k : q) (h : Hid q → p := by intro zk; refine rg_q (wn_none rfl) (op_ld 0 sc_52 rfl rfl rfl) rfl rfl ?_; exact zk.h) : p := h ⟨k⟩
theorem Z99 {p q : Prop} (k : q) (h : Hid q → p := by intro zk; refine cd_drawt (M := [_]) mx [6, 7] 8 (by kernel_rfl) rfl rfl ?_; exact zk.h) : p := h ⟨k⟩
theorem Z9a {a0 : Sort _} {q : ∀ (zz0 : a0), Prop} {p : Prop} (k : ∀ (zz0 : a0), q zz0) (h : Hid (∀ (zz0 : a0), q zz0) → p := by intro zk; refine rg_i (wn_none rfl) (os_bslice (E := encRoot) [_] (ys := [_]) sB_52 zv_32 rfl rfl rfl rfl (by decide)) rfl rfl ?_; rintro _ _ ⟨zz0, rfl, rfl⟩; refine ⟨[_, _], rfl, ?_⟩; exact zk.h zz0) : p := h ⟨k⟩
theorem Zd8 {a0 : Sort _} {a1 : ∀ (zz0 : a0), Sort _} {q : ∀ (zz0 : a0) (zz1 : a1 zz0), Prop} {p : Prop} (k : ∀ (zz0 : a0) (zz1 : a1 zz0), q zz0 zz1) (h : Hid (∀ (zz0 : a0) (zz1 : a1 zz0), q zz0 zz1) → p := by intro zk; refine rg_i (wn_none rfl) (os_pull1 (os_append (E := encRoot) rfl sB_52 zv_32 rfl rfl rfl (fun w s => (rds_row 1 rfl rfl) [] w s) rfl (by simp; omega) (by unfold maxLen; simp; omega))) rfl rfl ?_; rintro _ _ ⟨zz0, zz1, rfl, rfl⟩; refine ⟨[_, _], rfl, ?_⟩; exact zk.h zz0 zz1) : p := h ⟨k⟩
theorem Z9b {p q : Prop} (k : q) (h : Hid q → p := by intro zk; refine oN (os_store (v := .slice _ _ _) sc_52 rfl rfl rfl rfl (Free.zero _) rfl) ?_; rintro _ _ ⟨rfl, rfl⟩; exact zk.h) : p := h ⟨k⟩
theorem Zd9 {p q : Prop} (k : q) (h : Hid q → p := by intro zk; refine oli_iN (wn_none rfl) (os_storew (nodeC _) ag_77 rfl rfl (nodeC_len _) (nodeC_one _) (by simp [nodeC_len]) (Free.zero _)) ?_; rintro _ _ ⟨rfl, rfl⟩; exact zk.h) : p := h ⟨k⟩
theorem Z5x {p q : Prop} (k : q) (h : Hid q → p := by intro zk; refine oq (op_extract (v := .pointer _) rfl rfl) ?_; exact zk.h) : p := h ⟨k⟩
theorem Zc5 {p q : Prop} (k : q) (h : Hid q → p := by intro zk; refine e_q 1 rfl (wn_none rfl) (op_lda (L := rootC _) 0 ag_32 rfl rfl (rootC_take' _) (by simp [rootC_len])) ?_; exact zk.h) : p := h ⟨k⟩
theorem Zaf {p : Prop} (h : p := by exact px_ret1 rfl (v := .bool _) rfl (fun _ s => s) ⟨congrArg Value.bool (by simp [*]), rfl⟩) : p := h
theorem Zag {p : Prop} (h : p := by exact px_ret1 rfl (v := .pointer _) rfl (fun _ s => s) (.inl ⟨rfl, rfl, by omega⟩)) : p := h
theorem Z5y {p q : Prop} (k : q) (h : Hid q → p := by intro zk; refine e_q 0 rfl (wn_none rfl) (op_move (v := .int _ _) rfl) ?_; exact zk.h) : p := h ⟨k⟩
theorem Z7f {a0 : Sort _} {q : ∀ (zz0 : a0), Prop} {p : Prop} (k : ∀ (zz0 : a0), q zz0) (h : Hid (∀ (zz0 : a0), q zz0) → p := by intro zk; refine ei_i rfl rfl (wn_none rfl) (os_make (E := encBool) (_) (false) sB_104 zv_4 rfl rfl rfl (Int.toNat_of_nonneg (by omega)).symm (by omega) (by unfold maxLen; omega)) rfl ?_; rintro _ _ ⟨zz0, rfl, rfl⟩; refine ⟨[_, _], rfl, ?_⟩; exact zk.h zz0) : p := h ⟨k⟩
theorem Z7g {p q : Prop} (k : q) (h : Hid q → p := by intro zk; refine e_q 6 rfl (wn_none rfl) (op_build (L := [_, _, _, _]) (vs := [(0, .int _ _), (1, .slice _ _ _), (2, .slice _ _ _), (3, .map _)]) bB_121 rfl ⟨⟨rfl, rfl⟩, ⟨rfl, rfl⟩, ⟨rfl, rfl⟩, ⟨rfl, rfl⟩, trivial⟩ rfl) ?_; exact zk.h) : p := h ⟨k⟩
theorem Z4c {a0 : Sort _} {q : ∀ (zz0 : a0), Prop} {p : Prop} (k : ∀ (zz0 : a0), q zz0) (h : Hid (∀ (zz0 : a0), q zz0) → p := by intro zk; refine ei_i rfl rfl (wn_none rfl) (os_boxa rfl) rfl ?_; rintro _ _ ⟨zz0, rfl, rfl⟩; refine ⟨[_, _, _, _], rfl, ?_⟩; exact zk.h zz0) : p := h ⟨k⟩
theorem Z7h {p q : Prop} (k : q) (h : Hid q → p := by intro zk; refine e_q 8 rfl (wn_none rfl) (op_assign (v := .pointer _) rfl) ?_; exact zk.h) : p := h ⟨k⟩
theorem Z7i {p : Prop} (h : p := by exact Sat.tabMk (t := TabS.new n.toNat sl) (TabS.WF.new (by omega) (by omega) (by omega)) rfl rfl ((((s2.pull 1).pull 4).pull 4).pull 4)) : p := h
theorem Z7j {a0 : Sort _} {q : ∀ (zz0 : a0), Prop} {p : Prop} (k : ∀ (zz0 : a0), q zz0) (h : Hid (∀ (zz0 : a0), q zz0) → p := by intro zk; refine ei_i rfl rfl (wn_none rfl) (os_make (E := encBool) (_) (false) sB_104 zv_4 rfl rfl rfl (Int.toNat_of_nonneg (by omega)).symm (by omega) (by unfold maxLen; omega)) rfl ?_; rintro _ _ ⟨zz0, rfl, rfl⟩; refine ⟨[_, _, _], rfl, ?_⟩; exact zk.h zz0) : p := h ⟨k⟩
theorem Zc6 {a0 : Sort _} {q : ∀ (zz0 : a0), Prop} {p : Prop} (k : ∀ (zz0 : a0), q zz0) (h : Hid (∀ (zz0 : a0), q zz0) → p := by intro zk; refine ei_i rfl rfl (wn_none rfl) (os_make (E := encBool) (_) (false) sB_104 zv_4 rfl rfl rfl (Int.toNat_of_nonneg (by omega)).symm (by omega) (by unfold maxLen; omega)) rfl ?_; rintro _ _ ⟨zz0, rfl, rfl⟩; refine ⟨[_], rfl, ?_⟩; exact zk.h zz0) : p := h ⟨k⟩
theorem Zda {a0 : Sort _} {q : ∀ (zz0 : a0), Prop} {p : Prop} (k : ∀ (zz0 : a0), q zz0) (h : Hid (∀ (zz0 : a0), q zz0) → p := by intro zk; refine ei_i rfl rfl (wn_none rfl) (os_make (E := encPtr) (_) (none) sB_118 zv_131 rfl rfl rfl (Int.toNat_of_nonneg (by omega)).symm (by omega) (by unfold maxLen; omega)) rfl ?_; rintro _ _ ⟨zz0, rfl, rfl⟩; refine ⟨[_, _], rfl, ?_⟩; exact zk.h zz0) : p := h ⟨k⟩
theorem Z9c {p q : Prop} (k : q) (h : Hid q → p := by intro zk; refine et_1 (i := 2) (by kernel_rfl) ?_; exact zk.h) : p := h ⟨k⟩
theorem Zdb {a0 : Sort _} {q : ∀ (zz0 : a0), Prop} {p : Prop} (k : ∀ (zz0 : a0), q zz0) (h : Hid (∀ (zz0 : a0), q zz0) → p := by intro zk; refine ei_i rfl rfl (wn_none rfl) (os_make (E := encPtr) (_) (none) sB_118 zv_131 rfl rfl rfl (Int.toNat_of_nonneg (by omega)).symm (by omega) (by unfold maxLen; omega)) rfl ?_; rintro _ _ ⟨zz0, rfl, rfl⟩; refine ⟨[_, _, _], rfl, ?_⟩; exact zk.h zz0) : p := h ⟨k⟩
theorem Z5z {p q : Prop} (k : q) (h : Hid q → p := by intro zk; refine oq (op_field fld_36_0 rfl) ?_; exact zk.h) : p := h ⟨k⟩
theorem Zah {p : Prop} (h : p := by exact px_ret1 rfl (v := .int _ _) (l' := TabObj p t :: l) rfl (fun _ s => Sat.tabMk (t := t) hw2 (by simp) (by simp) (s.del 1)) ⟨rfl, rfl⟩) : p := h
theorem Z1x {p q : Prop} (k : q) (h : Hid q → p := by intro zk; refine rg_q (wn_none rfl) (op_field fld_36_0 rfl) rfl rfl ?_; exact zk.h) : p := h ⟨k⟩
theorem Zai {p q : Prop} (k : q) (h : Hid q → p := by intro zk; refine rg_q (wn_none rfl) (op_ld 1 sc_3 rfl rfl (voteC_a0 _)) rfl rfl ?_; exact zk.h) : p := h ⟨k⟩
theorem Zc7 {p q : Prop} (k : q) (h : Hid q → p := by intro zk; refine rg_q (wn_none rfl) (op_quo rfl rfl (by omega) (by omega) (by omega)) rfl rfl ?_; exact zk.h) : p := h ⟨k⟩
theorem Zaj {p q : Prop} (k : q) (h : Hid q → p := by intro zk; refine rg_q (wn_none rfl) (op_field fld_121_3 rfl) rfl rfl ?_; exact zk.h) : p := h ⟨k⟩
theorem Z6y {p q : Prop} (k : q) (h : Hid q → p := by intro zk; refine cd_drawt (M := []) mx [] 7 (by kernel_rfl) rfl rfl ?_; exact zk.h) : p := h ⟨k⟩
theorem Zak {p q : Prop} (k : q) (h : Hid q → p := by intro zk; refine rg_q (wn_none rfl) (op_field fld_36_2 rfl) rfl rfl ?_; exact zk.h) : p := h ⟨k⟩
theorem Zal {p q : Prop} (k : q) (h : Hid q → p := by intro zk; refine rg_q (wn_none rfl) (op_field fld_121_1 rfl) rfl rfl ?_; exact zk.h) : p := h ⟨k⟩
theorem Z5k {p q : Prop} (k : q) (h : Hid q → p := by intro zk; refine rg_q (wn_none rfl) (op_assign (v := .pointer _) rfl) rfl rfl ?_; exact zk.h) : p := h ⟨k⟩
theorem Z4d {p q : Prop} (k : q) (h : Hid q → p := by intro zk; refine rg_skip (wn_some rfl rfl rfl rfl rfl) rfl ?_; exact zk.h) : p := h ⟨k⟩
theorem Z6d {p q : Prop} (k : q) (h : Hid q → p := by intro zk; refine oq (op_field fld_36_2 rfl) ?_; exact zk.h) : p := h ⟨k⟩
theorem Z5l {p q : Prop} (k : q) (h : Hid q → p := by intro zk; refine rg_q (wn_none rfl) (op_ld 3 sc_3 rfl rfl (voteC_a0 _)) rfl rfl ?_; exact zk.h) : p := h ⟨k⟩
theorem Z9d {p q : Prop} (k : q) (h : Hid q → p := by intro zk; refine rg_q (wn_none rfl) (op_index _ sB_104 rfl rfl (Int.toNat_of_nonneg (by omega)).symm (rds_row 5 rfl rfl) rfl (by omega)) rfl rfl ?_; exact zk.h) : p := h ⟨k⟩
theorem Zam {p q : Prop} (k : q) (h : Hid q → p := by intro zk; refine oN (os_stsw  sc_4 rfl rfl rfl (by omega) rfl rfl) ?_; rintro _ _ ⟨rfl, rfl⟩; exact zk.h) : p := h ⟨k⟩
theorem Zan {a0 : Sort _} {q : ∀ (zz0 : a0), Prop} {p : Prop} (k : ∀ (zz0 : a0), q zz0) (h : Hid (∀ (zz0 : a0), q zz0) → p := by intro zk; refine oi (os_alloc (cs := (voteC Vote.zero).toArray) zB_36 (by kernel_rfl)) ?_; rintro _ _ ⟨zz0, rfl, rfl⟩; exact zk.h zz0) : p := h ⟨k⟩
theorem Z7k {p q : Prop} (k : q) (h : Hid q → p := by intro zk; refine oN (os_storew (voteC _) ag_36 rfl rfl (voteC_len _) (voteC_one _) (by simp [voteC_len]) (Free.zero _)) ?_; rintro _ _ ⟨rfl, rfl⟩; exact zk.h) : p := h ⟨k⟩
theorem Zdc {p : Prop} (h : p := by exact px_rv2 rfl (rv_cella 0 ag_36 rfl rfl (voteC_ta _) (by simp [voteC_len])) (rv_tmp (v := .bool _) rfl) (fun _ s => Sat.tabMk hw rfl rfl ((((((s.del 0).pull 1).pull 4).pull 4).pull 4).pull 4)) ⟨rfl, rfl⟩) : p := h
theorem Zao {p : Prop} (h : p := by exact px_ret2 rfl (v1 := .pointer _) (v2 := .bool _) rfl rfl (fun _ s => s) (.inl ⟨rfl, rfl, by omega⟩)) : p := h
theorem Z7l {p q : Prop} (k : q) (h : Hid q → p := by intro zk; refine e_q 8 rfl (wn_none rfl) (op_build (L := [_, _, _, _, _, _]) (vs := [(0, .int _ _), (1, .int _ _), (3, .slice _ _ _), (4, .slice _ _ _), (5, .slice _ _ _)]) bB_106 rfl ⟨⟨rfl, rfl⟩, ⟨rfl, rfl⟩, ⟨rfl, rfl⟩, ⟨rfl, rfl⟩, ⟨rfl, rfl⟩, trivial⟩ rfl) ?_; exact zk.h) : p := h ⟨k⟩
theorem Z24 {p q : Prop} (k : q) (h : Hid q → p := by intro zk; refine et_1 (i := 9) (by kernel_rfl) ?_; exact zk.h) : p := h ⟨k⟩
theorem Z7m {p q : Prop} (k : q) (h : Hid q → p := by intro zk; refine e_q 10 rfl (wn_none rfl) (op_assign (v := .pointer _) rfl) ?_; exact zk.h) : p := h ⟨k⟩
theorem Z7n {p q : Prop} (k : q) (h : Hid q → p := by intro zk; refine e_q 11 rfl (wn_none rfl) (op_assign (v := .bool _) rfl) ?_; exact zk.h) : p := h ⟨k⟩
theorem Z7o {p : Prop} (h : p := by exact Sat.rtabMk (t := TabS.new k sl) (N := k) (F := []) (Lv := List.replicate k Vote.zero) (Hs := List.replicate k false) (Ou := List.replicate k false) (TabS.WF.new (by omega) (by omega) (by omega)) ⟨by simp [TabS.new], by simp [TabS.new], by simp [TabS.new], by simp [TabS.new], by simp [TabS.new]⟩ rfl (by simp) (by simp) (by simp) ((((((Sat.rowNil (e := 142) (E := encFirst) s2).pull 4).pull 4).pull 4).pull 3).pull 4)) : p := h
theorem Zdd {a0 : Sort _} {q : ∀ (zz0 : a0), Prop} {p : Prop} (k : ∀ (zz0 : a0), q zz0) (h : Hid (∀ (zz0 : a0), q zz0) → p := by intro zk; refine ei_i rfl rfl (wn_none rfl) (os_make (E := encVote) (_) (Vote.zero) sB_103 zv_36 rfl rfl rfl (Int.toNat_of_nonneg (by omega)).symm (by omega) (by unfold maxLen; omega)) rfl ?_; rintro _ _ ⟨zz0, rfl, rfl⟩; refine ⟨[_, _], rfl, ?_⟩; exact zk.h zz0) : p := h ⟨k⟩
theorem Zde {a0 : Sort _} {q : ∀ (zz0 : a0), Prop} {p : Prop} (k : ∀ (zz0 : a0), q zz0) (h : Hid (∀ (zz0 : a0), q zz0) → p := by intro zk; refine ei_i rfl rfl (wn_none rfl) (os_make (E := encVote) (_) (Vote.zero) sB_103 zv_36 rfl rfl rfl (Int.toNat_of_nonneg (by omega)).symm (by omega) (by unfold maxLen; omega)) rfl ?_; rintro _ _ ⟨zz0, rfl, rfl⟩; refine ⟨[_, _, _], rfl, ?_⟩; exact zk.h zz0) : p := h ⟨k⟩
theorem Zap {p : Prop} (h : p := by exact px_ret1 rfl (v := .int _ _) (l' := RTabObj p t :: l) rfl (fun _ s => Sat.rtabMk (t := t) hw2 hR (by simp) (by simp) (by simp) (by simp) (s.del 1)) ⟨rfl, rfl⟩) : p := h
theorem Z6z {p q : Prop} (k : q) (h : Hid q → p := by intro zk; refine oq (op_ld 2 sc_3 rfl rfl (voteC_a0 _)) ?_; exact zk.h) : p := h ⟨k⟩
theorem Z6e {p q : Prop} (k : q) (h : Hid q → p := by intro zk; refine ol_skip (wn_some rfl rfl rfl hb6 rfl) rfl ?_; exact zk.h) : p := h ⟨k⟩
theorem Z6f {p q : Prop} (k : q) (h : Hid q → p := by intro zk; refine rg_q (wn_none rfl) (op_lda (L := voteC _) 3 ag_36 rfl rfl (voteC_ta _) (by simp [voteC_len])) rfl rfl ?_; exact zk.h) : p := h ⟨k⟩
theorem Zdf {p : Prop} (h : p := by exact px_ret1 rfl (v := .int _ _) (l' := RTabObj p { t with first := ins t.first (v.who, v.slot / t.slots) v.target, latest := t.latest.set v.who.toNat (some v) } :: l) rfl (fun _ s => Sat.rtabMk (t := { t with first := ins t.first (v.who, v.slot / t.slots) v.target, latest := t.latest.set v.who.toNat (some v) }) hw2 ⟨by simp [hR.n], by rw [hR.f, ins_none hlk, List.map_append]; rfl, by rw [hR.l, List.map_set]; rfl, by rw [hR.h, List.map_set]; rfl, hR.o⟩ (by simp) (by simp) (by simp) (by simp) (((((((s.del 5).del 4).pull 4).pull 1).pull 2).pull 4).pull 4)) ⟨rfl, rfl⟩) : p := h
theorem Z33 {p q : Prop} (k : q) (h : Hid q → p := by intro zk; refine rg_skip (wn_some rfl rfl rfl hb9 rfl) rfl ?_; exact zk.h) : p := h ⟨k⟩
theorem Zaq {p q : Prop} (k : q) (h : Hid q → p := by intro zk; refine rg_q (wn_some rfl rfl rfl hb2 rfl) (op_move (v := .int _ _) rfl) rfl rfl ?_; exact zk.h) : p := h ⟨k⟩
theorem Zdg {p : Prop} (h : p := by exact px_ret1 rfl (v := .bool _) rfl (fun _ s => s) ⟨congrArg Value.bool (by unfold inR; dsimp only; symm; first | exact decide_eq_true ⟨by omega, by omega⟩ | exact decide_eq_false (by omega) | (rw [Bool.eq_iff_iff]; simp; omega)), rfl⟩) : p := h
theorem Zc8 {p : Prop} (h : p := by exact px_ret1 rfl (v := .bool _) rfl (fun _ s => (s.del 0)) ⟨congrArg Value.bool (by unfold valOK; (try unfold inR); rw [Bool.eq_iff_iff]; simp; omega), rfl⟩) : p := h
theorem Z4e {p q : Prop} (k : q) (h : Hid q → p := by intro zk; refine oq (op_len_slice Tryz.underlying22 rfl) ?_; exact zk.h) : p := h ⟨k⟩
theorem Z7p {a0 : Sort _} {q : ∀ (zz0 : a0), Prop} {p : Prop} (k : ∀ (zz0 : a0), q zz0) (h : Hid (∀ (zz0 : a0), q zz0) → p := by intro zk; refine oi (os_alloc (cs := (valC Val.zero).toArray) zB_66 (by kernel_rfl)) ?_; rintro _ _ ⟨zz0, rfl, rfl⟩; exact zk.h zz0) : p := h ⟨k⟩
theorem Z7q {p q : Prop} (k : q) (h : Hid q → p := by intro zk; refine oN (os_storew (valC _) ag_66 rfl rfl (valC_len _) (valC_one _) (by simp [valC_len]) (Free.zero _)) ?_; rintro _ _ ⟨rfl, rfl⟩; exact zk.h) : p := h ⟨k⟩
theorem Z7r {p : Prop} (h : p := by exact px_ret2 rfl (v1 := .int _ _) (v2 := .bool _) rfl rfl (fun _ s => (s.del 0)) ⟨rfl, rfl⟩) : p := h
theorem Z3w {p q : Prop} (k : q) (h : Hid q → p := by intro zk; refine oq (op_field fld_24_0 rfl) ?_; exact zk.h) : p := h ⟨k⟩
theorem Z7s {p q : Prop} (k : q) (h : Hid q → p := by intro zk; refine oq (op_ld 0 sc_22 rfl rfl (cfgC_a0 _)) ?_; exact zk.h) : p := h ⟨k⟩
theorem Z9e {p q : Prop} (k : q) (h : Hid q → p := by intro zk; refine oq (op_len_string Tryz.underlying9 rfl) ?_; exact zk.h) : p := h ⟨k⟩
theorem Zc9 {p : Prop} (h : p := by exact px_ret1 rfl (v := .slice _ _ _) rfl (fun _ s => s) ⟨_, _, rfl, rfl⟩) : p := h
theorem Z4f {p q : Prop} (k : q) (h : Hid q → p := by intro zk; refine oq (op_assign (v := .string _) rfl) ?_; exact zk.h) : p := h ⟨k⟩
theorem Z9f {p q : Prop} (k : q) (h : Hid q → p := by intro zk; refine e_q 5 rfl (wn_none rfl) (op_move (v := .int _ _) rfl) ?_; exact zk.h) : p := h ⟨k⟩
theorem Zca {p q : Prop} (k : q) (h : Hid q → p := by intro zk; refine ei_i rfl rfl (wn_none rfl) (os_q (op_b2s sB_150 Tryz.underlying5 Tryz.underlying9 rfl (rds_row 0 rfl rfl) rfl)) rfl ?_; rintro _ _ ⟨rfl, rfl⟩; refine ⟨[_], rfl, ?_⟩; exact zk.h) : p := h ⟨k⟩
theorem Zdh {p q : Prop} (k : q) (h : Hid q → p := by intro zk; refine ei_i rfl rfl (wn_none rfl) (os_call cb_85 rfl (fun w s => ih _ (by rw [← hk, clamp8_pred hp1]; exact Nat.lt_succ_self _) _ _   s rfl (by omega))) rfl ?_; rintro _ _ ⟨rfl, rfl⟩; refine ⟨[_], rfl, ?_⟩; exact zk.h) : p := h ⟨k⟩
theorem Zcb {p q : Prop} (k : q) (h : Hid q → p := by intro zk; refine e_q 11 rfl (wn_none rfl) (op_sadd rfl rfl (by simp only [putB_length, List.length_cons, List.length_nil]; have := clamp8_le ((if 8 < wd then 8 else wd) - 1); omega)) ?_; exact zk.h) : p := h ⟨k⟩
theorem Zcc {p : Prop} (h : p := by exact px_ret1 rfl (v := .string _) rfl (fun _ s => s.del 0) ⟨by rw [← hk, clamp8_pred hp1, putB_cons]; rfl, rfl⟩) : p := h
theorem Zar {p q : Prop} (k : q) (h : Hid q → p := by intro zk; refine ei_i rfl rfl (wn_none rfl) (os_call cb_77 rfl (fun w s => In_calls (b := 64) _  s )) rfl ?_; rintro _ _ ⟨rfl, rfl⟩; refine ⟨[], rfl, ?_⟩; exact zk.h) : p := h ⟨k⟩
theorem Z4g {p q : Prop} (k : q) (h : Hid q → p := by intro zk; refine oq (op_lda (L := cfgC _) 0 ag_24 rfl rfl (cfgC_ta _) (by simp [cfgC_len])) ?_; exact zk.h) : p := h ⟨k⟩
theorem Zcd {a0 : Sort _} {q : ∀ (zz0 : a0), Prop} {p : Prop} (k : ∀ (zz0 : a0), q zz0) (h : Hid (∀ (zz0 : a0), q zz0) → p := by intro zk; refine oi (os_alloc (cs := (wC (List.replicate 8 0)).toArray) zB_152 (by kernel_rfl)) ?_; rintro _ _ ⟨zz0, rfl, rfl⟩; exact zk.h zz0) : p := h ⟨k⟩
theorem Z9g {a0 : Sort _} {q : ∀ (zz0 : a0), Prop} {p : Prop} (k : ∀ (zz0 : a0), q zz0) (h : Hid (∀ (zz0 : a0), q zz0) → p := by intro zk; refine oi (os_alloc (cs := (wC (List.replicate 64 0)).toArray) zB_156 (by kernel_rfl)) ?_; rintro _ _ ⟨zz0, rfl, rfl⟩; exact zk.h zz0) : p := h ⟨k⟩
theorem Z9h {p q : Prop} (k : q) (h : Hid q → p := by intro zk; refine rg_q (wn_none rfl) (op_mul rfl rfl (by omega) (by omega)) rfl rfl ?_; exact zk.h) : p := h ⟨k⟩
theorem Zas {p q : Prop} (k : q) (h : Hid q → p := by intro zk; refine rg_q (wn_none rfl) (op_ldw sc_5 ((hr.cons _).cons _) rfl (by omega) rfl) rfl rfl ?_; exact zk.h) : p := h ⟨k⟩
theorem Z9i {p q : Prop} (k : q) (h : Hid q → p := by intro zk; refine rg_q (wn_none rfl) (op_conv32 Tryz.underlying151 (by rw [Tryz.underlying5]; rfl) rfl) rfl rfl ?_; exact zk.h) : p := h ⟨k⟩
theorem Zat {p q : Prop} (k : q) (h : Hid q → p := by intro zk; refine rg_q (wn_none rfl) (op_ld 0 sc_151 rfl rfl (fillA_at (by rw [hml]; omega))) rfl rfl ?_; exact zk.h) : p := h ⟨k⟩
theorem Zp {p q : Prop} (k : q) (h : Hid q → p := by intro zk; refine ei_i rfl rfl (wn_none rfl) (os_q (op_ld 0 sc_151 rfl rfl (fillA_at (by rw [hml]; omega)))) rfl ?_; rintro _ _ ⟨rfl, rfl⟩; refine ⟨[_], rfl, ?_⟩; exact zk.h) : p := h ⟨k⟩
theorem Z9j {p q : Prop} (k : q) (h : Hid q → p := by intro zk; refine ei_i rfl rfl (wn_none rfl) (os_call cb_105 rfl (fun w s => turn_calls (k := 7) _  s (by decide) (by decide))) rfl ?_; rintro _ _ ⟨rfl, rfl⟩; refine ⟨[_], rfl, ?_⟩; exact zk.h) : p := h ⟨k⟩
theorem Z60 {p q : Prop} (k : q) (h : Hid q → p := by intro zk; refine e_q 13 rfl (wn_none rfl) (op_add32 _ _ rfl rfl) ?_; exact zk.h) : p := h ⟨k⟩
theorem Z2g {p q : Prop} (k : q) (h : Hid q → p := by intro zk; refine e_q 18 rfl (wn_none rfl) (op_add32 _ _ rfl rfl) ?_; exact zk.h) : p := h ⟨k⟩
theorem Z6g {p q : Prop} (k : q) (h : Hid q → p := by intro zk; refine ei_i rfl rfl (wn_none rfl) (os_call cb_105 rfl (fun w s => turn_calls (k := 17) _  s (by decide) (by decide))) rfl ?_; rintro _ _ ⟨rfl, rfl⟩; refine ⟨[_], rfl, ?_⟩; exact zk.h) : p := h ⟨k⟩
theorem Z5m {p q : Prop} (k : q) (h : Hid q → p := by intro zk; refine ei_i rfl rfl (wn_none rfl) (os_call cb_105 rfl (fun w s => turn_calls (k := 19) _  s (by decide) (by decide))) rfl ?_; rintro _ _ ⟨rfl, rfl⟩; refine ⟨[_], rfl, ?_⟩; exact zk.h) : p := h ⟨k⟩
theorem Z4z {p q : Prop} (k : q) (h : Hid q → p := by intro zk; refine et_1 (i := 17) (by kernel_rfl) ?_; exact zk.h) : p := h ⟨k⟩
theorem Z7t {p q0 q1 : Prop} (k0 : q0) (k1 : q1) (h : Hid q0 → Hid q1 → p := by intro zk0 zk1; refine et_2 (i1 := 4) (i2 := 20) (by kernel_rfl) ?_ ?_; exact zk0.h; exact zk1.h) : p := h ⟨k0⟩ ⟨k1⟩
theorem Z6h {p q0 q1 : Prop} (k0 : q0) (k1 : q1) (h : Hid q0 → Hid q1 → p := by intro zk0 zk1; refine et_2 (i1 := 4) (i2 := 22) (by kernel_rfl) ?_ ?_; exact zk0.h; exact zk1.h) : p := h ⟨k0⟩ ⟨k1⟩
theorem Z7u {a0 : Sort _} {q : ∀ (zz0 : a0), Prop} {p : Prop} (k : ∀ (zz0 : a0), q zz0) (h : Hid (∀ (zz0 : a0), q zz0) → p := by intro zk; refine ei_i rfl rfl (wn_none rfl) (os_alloc (cs := (wC (List.replicate 64 0)).toArray) zB_156 (by kernel_rfl)) rfl ?_; rintro _ _ ⟨zz0, rfl, rfl⟩; refine ⟨[_], rfl, ?_⟩; exact zk.h zz0) : p := h ⟨k⟩
theorem Z1l {a0 : Sort _} {q : ∀ (zz0 : a0), Prop} {p : Prop} (k : ∀ (zz0 : a0), q zz0) (h : Hid (∀ (zz0 : a0), q zz0) → p := by intro zk; refine ei_i rfl rfl (wn_none rfl) (os_alloc (cs := (wC (List.replicate 64 0)).toArray) zB_156 (by kernel_rfl)) rfl ?_; rintro _ _ ⟨zz0, rfl, rfl⟩; refine ⟨[_, _], rfl, ?_⟩; exact zk.h zz0) : p := h ⟨k⟩
theorem Z25 {a0 : Sort _} {q : ∀ (zz0 : a0), Prop} {p : Prop} (k : ∀ (zz0 : a0), q zz0) (h : Hid (∀ (zz0 : a0), q zz0) → p := by intro zk; refine ei_i rfl rfl (wn_none rfl) (os_alloc (cs := (wC (List.replicate 8 0)).toArray) zB_152 (by kernel_rfl)) rfl ?_; rintro _ _ ⟨zz0, rfl, rfl⟩; refine ⟨[_, _, _], rfl, ?_⟩; exact zk.h zz0) : p := h ⟨k⟩
theorem Z26 {p q : Prop} (k : q) (h : Hid q → p := by intro zk; refine ei_iN rfl rfl (wn_none rfl) (os_pull2 (os_storew (wC _) ag_156 rfl rfl (by rw [wC_len]; exact layM_len bs) (wC_one _) (by simp [wC_len, w8C_len]) (Free.zero _))) ?_; rintro _ _ ⟨rfl, rfl⟩; refine ⟨[_, _, _], rfl, ?_⟩; exact zk.h) : p := h ⟨k⟩
theorem Z4h {a0 : Sort _} {q : ∀ (zz0 : a0), Prop} {p : Prop} (k : ∀ (zz0 : a0), q zz0) (h : Hid (∀ (zz0 : a0), q zz0) → p := by intro zk; refine ei_i rfl rfl (wn_none rfl) (os_alloc (cs := (wC (List.replicate 8 0)).toArray) zB_152 (by kernel_rfl)) rfl ?_; rintro _ _ ⟨zz0, rfl, rfl⟩; refine ⟨[_, _], rfl, ?_⟩; exact zk.h zz0) : p := h ⟨k⟩
theorem Z2s {a0 : Sort _} {q : ∀ (zz0 : a0), Prop} {p : Prop} (k : ∀ (zz0 : a0), q zz0) (h : Hid (∀ (zz0 : a0), q zz0) → p := by intro zk; refine ei_i rfl rfl (wn_none rfl) (os_alloc (cs := (wC (List.replicate 64 0)).toArray) zB_156 (by kernel_rfl)) rfl ?_; rintro _ _ ⟨zz0, rfl, rfl⟩; refine ⟨[_, _, _], rfl, ?_⟩; exact zk.h zz0) : p := h ⟨k⟩
theorem Z27 {p q : Prop} (k : q) (h : Hid q → p := by intro zk; refine ei_iN rfl rfl (wn_none rfl) (os_pull1 (os_storew (wC _) ag_156 rfl rfl (by rw [wC_len]; exact layM_len bs) (wC_one _) (by simp [wC_len, w8C_len]) (Free.zero _))) ?_; rintro _ _ ⟨rfl, rfl⟩; refine ⟨[_, _, _], rfl, ?_⟩; exact zk.h) : p := h ⟨k⟩
theorem Z28 {p q : Prop} (k : q) (h : Hid q → p := by intro zk; refine ei_iN rfl rfl (wn_none rfl) (os_storew (wC _) ag_156 rfl rfl (by rw [wC_len]; exact layM_len bs) (wC_one _) (by simp [wC_len, w8C_len]) (Free.zero _)) ?_; rintro _ _ ⟨rfl, rfl⟩; refine ⟨[_, _, _], rfl, ?_⟩; exact zk.h) : p := h ⟨k⟩
theorem Zce {a0 : Sort _} {q : ∀ (zz0 : a0), Prop} {p : Prop} (k : ∀ (zz0 : a0), q zz0) (h : Hid (∀ (zz0 : a0), q zz0) → p := by intro zk; refine ei_i rfl rfl (wn_none rfl) (os_alloc (cs := (wC (List.replicate 8 0)).toArray) zB_152 (by kernel_rfl)) rfl ?_; rintro _ _ ⟨zz0, rfl, rfl⟩; refine ⟨[_], rfl, ?_⟩; exact zk.h zz0) : p := h ⟨k⟩
theorem Z7v {p q : Prop} (k : q) (h : Hid q → p := by intro zk; refine ei_i rfl rfl (wn_none rfl) (os_call cb_104 rfl (fun w s => keys_calls  s )) rfl ?_; rintro _ _ ⟨rfl, rfl⟩; refine ⟨[_], rfl, ?_⟩; exact zk.h) : p := h ⟨k⟩
theorem Z7w {p q0 q1 : Prop} (k0 : q0) (k1 : q1) (h : Hid q0 → Hid q1 → p := by intro zk0 zk1; refine et_2 (i1 := 2) (i2 := 9) (by kernel_rfl) ?_ ?_; exact zk0.h; exact zk1.h) : p := h ⟨k0⟩ ⟨k1⟩
theorem Z2o {p q : Prop} (k : q) (h : Hid q → p := by intro zk; refine ei_i rfl rfl (wn_none rfl) (os_call cb_104 rfl (fun w s => keys_calls  s )) rfl ?_; rintro _ _ ⟨rfl, rfl⟩; refine ⟨[_, _], rfl, ?_⟩; exact zk.h) : p := h ⟨k⟩
theorem Z7x {p q0 q1 : Prop} (k0 : q0) (k1 : q1) (h : Hid q0 → Hid q1 → p := by intro zk0 zk1; refine et_2 (i1 := 2) (i2 := 8) (by kernel_rfl) ?_ ?_; exact zk0.h; exact zk1.h) : p := h ⟨k0⟩ ⟨k1⟩
theorem Z7y {p q0 q1 : Prop} (k0 : q0) (k1 : q1) (h : Hid q0 → Hid q1 → p := by intro zk0 zk1; refine et_2 (i1 := 2) (i2 := 7) (by kernel_rfl) ?_ ?_; exact zk0.h; exact zk1.h) : p := h ⟨k0⟩ ⟨k1⟩
theorem Zcf {p q : Prop} (k : q) (h : Hid q → p := by intro zk; refine ei_i rfl rfl (wn_none rfl) (os_call cb_103 rfl (fun w s => lay_calls _ _ _  s ((hr.cons _).cons _) (by assumption))) rfl ?_; rintro _ _ ⟨rfl, rfl⟩; refine ⟨[_], rfl, ?_⟩; exact zk.h) : p := h ⟨k⟩
theorem Z7z {p q : Prop} (k : q) (h : Hid q → p := by intro zk; refine ei_i rfl rfl (wn_none rfl) (os_call cb_103 rfl (fun w s => lay_calls _ _ _  s (((hr.cons _).cons _).cons _) (by assumption))) rfl ?_; rintro _ _ ⟨rfl, rfl⟩; refine ⟨[_, _], rfl, ?_⟩; exact zk.h) : p := h ⟨k⟩
theorem Z6i {p q : Prop} (k : q) (h : Hid q → p := by intro zk; refine et_1 (i := 1) (by kernel_rfl) ?_; exact zk.h) : p := h ⟨k⟩
theorem Z80 {p q : Prop} (k : q) (h : Hid q → p := by intro zk; refine ei_i rfl rfl (wn_none rfl) (os_call cb_103 rfl (fun w s => lay_calls _ _ _  s ((((hr.cons _).cons _).cons _).cons _) (by assumption))) rfl ?_; rintro _ _ ⟨rfl, rfl⟩; refine ⟨[_, _, _], rfl, ?_⟩; exact zk.h) : p := h ⟨k⟩
theorem Zdi {p q : Prop} (k : q) (h : Hid q → p := by intro zk; refine oN (os_store (v := .int _ _) sc_151 rfl rfl rfl (Nat.ble_eq_true_of_le (by simp [wC_len] <;> omega)) (Free.zero _) (wC_set0 _)) ?_; rintro _ _ ⟨rfl, rfl⟩; exact zk.h) : p := h ⟨k⟩
theorem Z50 {p q : Prop} (k : q) (h : Hid q → p := by intro zk; refine oq (op_move (v := .string _) rfl) ?_; exact zk.h) : p := h ⟨k⟩
theorem Z9k {p q : Prop} (k : q) (h : Hid q → p := by intro zk; refine oN (os_store (v := .slice _ _ _) sc_150 rfl rfl rfl (by simp [stC_len]) (Free.zero _) (stC_s8 _ ⟨_, _, _⟩)) ?_; rintro _ _ ⟨rfl, rfl⟩; exact zk.h) : p := h ⟨k⟩
theorem Z81 {p q : Prop} (k : q) (h : Hid q → p := by intro zk; refine oq (op_ld 0 sc_150 rfl rfl (show (stC _).toArray[8]? = some (.slice bo b.length bc) from stC_a8 _)) ?_; exact zk.h) : p := h ⟨k⟩
theorem Zdj {p q : Prop} (k : q) (h : Hid q → p := by intro zk; refine oi (os_call cb_100 rfl (fun w s => take_calls _ _ _ _ _  s ((rds_row 0 rfl rfl).take 64) (by rw [List.length_take]; omega))) ?_; rintro _ _ ⟨rfl, rfl⟩; exact zk.h) : p := h ⟨k⟩
theorem Zdk {a0 : Sort _} {a1 : ∀ (zz0 : a0), Sort _} {q : ∀ (zz0 : a0) (zz1 : a1 zz0), Prop} {p : Prop} (k : ∀ (zz0 : a0) (zz1 : a1 zz0), q zz0 zz1) (h : Hid (∀ (zz0 : a0) (zz1 : a1 zz0), q zz0 zz1) → p := by intro zk; refine ei_i rfl rfl (wn_none rfl) (os_pull2 (os_append (E := encU8) rfl sB_150 zv_5 rfl rfl rfl (fun w s => (rds_row 1 rfl rfl) [] w s) rfl (by rw [hl8]; simp; omega) (by unfold maxLen; rw [hl8]; simp; omega))) rfl ?_; rintro _ _ ⟨zz0, zz1, rfl, rfl⟩; refine ⟨[_, _, _], rfl, ?_⟩; exact zk.h zz0 zz1) : p := h ⟨k⟩
theorem Zdl {p q : Prop} (k : q) (h : Hid q → p := by intro zk; refine ei_iN rfl rfl (wn_none rfl) (os_pull2 (os_store (v := .slice _ _ _) sc_150 rfl rfl rfl (by simp [stC_len]) (Free.zero _) (stC_s8 _ ⟨_, _, _⟩))) ?_; rintro _ _ ⟨rfl, rfl⟩; refine ⟨[_, _, _], rfl, ?_⟩; exact zk.h) : p := h ⟨k⟩
theorem Z82 {p q : Prop} (k : q) (h : Hid q → p := by intro zk; refine oq (op_mul rfl rfl (by omega) (by omega)) ?_; exact zk.h) : p := h ⟨k⟩
theorem Z9l {p q : Prop} (k : q) (h : Hid q → p := by intro zk; refine oq (op_conv8 Tryz.underlying5 (by rw [Tryz.underlying151]; rfl) rfl) ?_; exact zk.h) : p := h ⟨k⟩
theorem Z70 {p q : Prop} (k : q) (h : Hid q → p := by intro zk; refine oq (op_shr_nat (m := 32) rfl rfl (by decide)) ?_; exact zk.h) : p := h ⟨k⟩
theorem Z83 {p q : Prop} (k : q) (h : Hid q → p := by intro zk; refine ol_skip (wn_undef rfl rfl rfl rfl) rfl ?_; exact zk.h) : p := h ⟨k⟩
theorem Zdm {p q : Prop} (k : q) (h : Hid q → p := by intro zk; refine px_loop2 (i + 1) (by omega) (by (try dsimp only); omega) ⟨congrArg (fun q : Nat => Value.int .u64 (q : Int)) e1.symm, congrArg (Value.int .i64) (by omega), trivial⟩ ?_ (fun _ s => s); exact zk.h) : p := h ⟨k⟩
theorem Zdn {p q : Prop} (k : q) (h : Hid q → p := by intro zk; refine px_loop2 (j + 1) (by omega) (by (try dsimp only); omega) ⟨congrArg Value.bool (by rw [e1, hb3]; first | exact decide_eq_decide.2 (not_congr Int.natCast_eq_zero) | (rw [Bool.true_and]; exact decide_eq_decide.2 (not_congr Int.natCast_eq_zero)) | simp), congrArg (Value.int .i64) (by simp), trivial⟩ ?_ (fun _ s => s); exact zk.h) : p := h ⟨k⟩
theorem Z9m {p q : Prop} (k : q) (h : Hid q → p := by intro zk; refine ei_i rfl rfl (wn_none rfl) (os_call cb_98 rfl (fun w s => right_calls (k := 7) _  s (by decide) (by decide))) rfl ?_; rintro _ _ ⟨rfl, rfl⟩; refine ⟨[_], rfl, ?_⟩; exact zk.h) : p := h ⟨k⟩
theorem Z6j {p q : Prop} (k : q) (h : Hid q → p := by intro zk; refine ei_i rfl rfl (wn_none rfl) (os_call cb_98 rfl (fun w s => right_calls (k := 17) _  s (by decide) (by decide))) rfl ?_; rintro _ _ ⟨rfl, rfl⟩; refine ⟨[_], rfl, ?_⟩; exact zk.h) : p := h ⟨k⟩
theorem Z5n {p q : Prop} (k : q) (h : Hid q → p := by intro zk; refine ei_i rfl rfl (wn_none rfl) (os_call cb_98 rfl (fun w s => right_calls (k := 19) _  s (by decide) (by decide))) rfl ?_; rintro _ _ ⟨rfl, rfl⟩; refine ⟨[_], rfl, ?_⟩; exact zk.h) : p := h ⟨k⟩
theorem Z6k {p q : Prop} (k : q) (h : Hid q → p := by intro zk; refine rg_q (wn_none rfl) (op_ld 3 sc_151 rfl rfl (wC_gd (ws := h.1) (by rw [h.2]; decide))) rfl rfl ?_; exact zk.h) : p := h ⟨k⟩
theorem Z6l {p q : Prop} (k : q) (h : Hid q → p := by intro zk; refine oq (op_ld 3 sc_151 rfl rfl (wC_gd (ws := h.1) (by rw [h.2]; decide))) ?_; exact zk.h) : p := h ⟨k⟩
theorem Z9n {p q : Prop} (k : q) (h : Hid q → p := by intro zk; refine cd_draw (M := []) mx [5] (by kernel_rfl) ?_; exact zk.h) : p := h ⟨k⟩
theorem Zau {p q : Prop} (k : q) (h : Hid q → p := by intro zk; refine rg_q (wn_none rfl) (op_ld 1 sc_70 rfl rfl rfl) rfl rfl ?_; exact zk.h) : p := h ⟨k⟩
theorem Z3n {p q : Prop} (k : q) (h : Hid q → p := by intro zk; refine oq (op_eqnil Tryz.underlying27 rfl rfl) ?_; exact zk.h) : p := h ⟨k⟩
theorem Zdo {p q : Prop} (k : q) (h : Hid q → p := by intro zk; refine ei_i rfl rfl (wn_none rfl) (os_back (os_pull2 (os_call cb_30 rfl (fun w s => Place_calls _ _ _  s ))) (fun _ s => (((((s.pull 4).pull 4).pull 2).pull 4).pull 4))) rfl ?_; rintro _ _ ⟨rfl, rfl⟩; refine ⟨[], rfl, ?_⟩; exact zk.h) : p := h ⟨k⟩
theorem Z84 {p q : Prop} (k : q) (h : Hid q → p := by intro zk; refine e_q 12 rfl (wn_none rfl) (op_move (v := .tuple _) rfl) ?_; exact zk.h) : p := h ⟨k⟩
theorem Z85 {p q : Prop} (k : q) (h : Hid q → p := by intro zk; refine e_q 13 rfl (wn_none rfl) (op_extract (v := .agg _) rfl rfl) ?_; exact zk.h) : p := h ⟨k⟩
theorem Z86 {p q : Prop} (k : q) (h : Hid q → p := by intro zk; refine e_q 14 rfl (wn_none rfl) (op_extract (v := .bool _) rfl rfl) ?_; exact zk.h) : p := h ⟨k⟩
theorem Z87 {a0 : Sort _} {q : ∀ (zz0 : a0), Prop} {p : Prop} (k : ∀ (zz0 : a0), q zz0) (h : Hid (∀ (zz0 : a0), q zz0) → p := by intro zk; refine ei_i rfl rfl (wn_none rfl) (os_alloc (cs := (nodeC Node.zero).toArray) zB_77 (by kernel_rfl)) rfl ?_; rintro _ _ ⟨zz0, rfl, rfl⟩; refine ⟨[_], rfl, ?_⟩; exact zk.h zz0) : p := h ⟨k⟩
theorem Z88 {p q : Prop} (k : q) (h : Hid q → p := by intro zk; refine ei_iN rfl rfl (wn_none rfl) (os_storew (nodeC _) ag_77 rfl rfl (nodeC_len _) (nodeC_one _) (by simp [nodeC_len]) (Free.zero _)) ?_; rintro _ _ ⟨rfl, rfl⟩; refine ⟨[_], rfl, ?_⟩; exact zk.h) : p := h ⟨k⟩
theorem Z89 {p q : Prop} (k : q) (h : Hid q → p := by intro zk; refine e_q 17 rfl (wn_none rfl) (op_assign (v := .bool _) rfl) ?_; exact zk.h) : p := h ⟨k⟩
theorem Z71 {p : Prop} (h : p := by exact px_ret1 rfl (v := .int _ _) rfl (fun _ s => ((s.del 1).del 0)) ⟨rfl, rfl⟩) : p := h
theorem Zdp {p q : Prop} (k : q) (h : Hid q → p := by intro zk; refine ei_i rfl rfl (wn_none rfl) (os_back (os_pull3 (os_call cb_30 rfl (fun w s => Place_calls _ _ _  s ))) (fun _ s => ((((((s.pull 5).pull 5).pull 2).pull 5).pull 5).pull 5))) rfl ?_; rintro _ _ ⟨rfl, rfl⟩; refine ⟨[_], rfl, ?_⟩; exact zk.h) : p := h ⟨k⟩
theorem Zcg {p q : Prop} (k : q) (h : Hid q → p := by intro zk; refine ei_i rfl rfl (wn_none rfl) (os_back (os_pull5 (os_call cb_31 rfl (fun w s => TVote_calls _ _ _  s ))) (fun _ s => (((((s.pull 5).pull 5).pull 5).pull 5).pull 5))) rfl ?_; rintro _ _ ⟨rfl, rfl⟩; refine ⟨[], rfl, ?_⟩; exact zk.h) : p := h ⟨k⟩
theorem Z8a {p q : Prop} (k : q) (h : Hid q → p := by intro zk; refine e_q 7 rfl (wn_none rfl) (op_move (v := .tuple _) rfl) ?_; exact zk.h) : p := h ⟨k⟩
theorem Z8b {p q : Prop} (k : q) (h : Hid q → p := by intro zk; refine e_q 8 rfl (wn_none rfl) (op_extract (v := .agg _) rfl rfl) ?_; exact zk.h) : p := h ⟨k⟩
theorem Z8c {p q : Prop} (k : q) (h : Hid q → p := by intro zk; refine e_q 9 rfl (wn_none rfl) (op_extract (v := .bool _) rfl rfl) ?_; exact zk.h) : p := h ⟨k⟩
theorem Z8d {a0 : Sort _} {q : ∀ (zz0 : a0), Prop} {p : Prop} (k : ∀ (zz0 : a0), q zz0) (h : Hid (∀ (zz0 : a0), q zz0) → p := by intro zk; refine ei_i rfl rfl (wn_none rfl) (os_alloc (cs := (voteC Vote.zero).toArray) zB_36 (by kernel_rfl)) rfl ?_; rintro _ _ ⟨zz0, rfl, rfl⟩; refine ⟨[_], rfl, ?_⟩; exact zk.h zz0) : p := h ⟨k⟩
theorem Z8e {p q : Prop} (k : q) (h : Hid q → p := by intro zk; refine ei_iN rfl rfl (wn_none rfl) (os_storew (voteC _) ag_36 rfl rfl (voteC_len _) (voteC_one _) (by simp [voteC_len]) (Free.zero _)) ?_; rintro _ _ ⟨rfl, rfl⟩; refine ⟨[_], rfl, ?_⟩; exact zk.h) : p := h ⟨k⟩
theorem Z8f {p q : Prop} (k : q) (h : Hid q → p := by intro zk; refine e_q 12 rfl (wn_none rfl) (op_assign (v := .bool _) rfl) ?_; exact zk.h) : p := h ⟨k⟩
theorem Z8g {p q : Prop} (k : q) (h : Hid q → p := by intro zk; refine oq (op_lda (L := rootC _) 0 ag_32 rfl rfl (voteC_af2 _) (by simp [voteC_len])) ?_; exact zk.h) : p := h ⟨k⟩
theorem Z8h {p q : Prop} (k : q) (h : Hid q → p := by intro zk; refine rg_q (wn_none rfl) (op_field fld_72_3 rfl) rfl rfl ?_; exact zk.h) : p := h ⟨k⟩
theorem Z8i {p q : Prop} (k : q) (h : Hid q → p := by intro zk; refine rg_q (wn_none rfl) (op_ld 0 sc_42 rfl rfl rfl) rfl rfl ?_; exact zk.h) : p := h ⟨k⟩
theorem Z8j {p q : Prop} (k : q) (h : Hid q → p := by intro zk; refine rg_i (wn_none rfl) (os_call cb_33 rfl (fun w s => Take_calls _ _ _  s )) rfl rfl ?_; rintro _ _ ⟨rfl, rfl⟩; refine ⟨[_], rfl, ?_⟩; exact zk.h) : p := h ⟨k⟩
theorem Z8k {p q : Prop} (k : q) (h : Hid q → p := by intro zk; refine cd_draw (M := [_, _, _]) mx [8, 9] (by kernel_rfl) ?_; exact zk.h) : p := h ⟨k⟩
theorem Z8l {p q : Prop} (k : q) (h : Hid q → p := by intro zk; refine rg_i (wn_none rfl) (os_pull1 (os_pull2 (os_call cb_34 rfl (fun w s => put_calls _ _ _ _ _ _ _ _ _ _ _ _ _ _ _ _ _ _ _ _ _ _  s (Nat.le_of_eq (htp.1 h0).2.2) (htp.1 h0).2.1)))) rfl rfl ?_; rintro _ _ ⟨rfl, rfl⟩; refine ⟨[_, _, _], rfl, ?_⟩; exact zk.h) : p := h ⟨k⟩
theorem Z4i {p : Prop} (h : p := by exact px_ret1 rfl (v := .int _ _) rfl (fun _ s => (((s.del 6).del 5).del 4)) ⟨rfl, rfl⟩) : p := h
theorem Z8m {p : Prop} (h : p := by exact px_ret1 rfl (v := .int _ _) rfl (fun _ s => ((((((s.del 4).del 3).del 2).pull 3).pull 3).pull 3)) ⟨rfl, rfl⟩) : p := h
theorem Zch {p q : Prop} (k : q) (h : Hid q → p := by intro zk; refine ei_i rfl rfl (wn_none rfl) (os_back (os_pull6 (os_call cb_31 rfl (fun w s => TVote_calls _ _ _  s ))) (fun _ s => ((((((s.pull 6).pull 6).pull 6).pull 6).pull 6).pull 6))) rfl ?_; rintro _ _ ⟨rfl, rfl⟩; refine ⟨[_], rfl, ?_⟩; exact zk.h) : p := h ⟨k⟩
theorem Z6m {p q : Prop} (k : q) (h : Hid q → p := by intro zk; refine rg_q (wn_none rfl) (op_extract (v := .pointer _) rfl rfl) rfl rfl ?_; exact zk.h) : p := h ⟨k⟩
theorem Z9o {p : Prop} (h : p := by exact px_ret1 rfl (v := .int _ _) rfl (fun _ s => (s.del 0)) ⟨rfl, rfl⟩) : p := h
theorem Z9p {p q : Prop} (k : q) (h : Hid q → p := by intro zk; refine rg_q (wn_none rfl) (op_field fld_108_0 rfl) rfl rfl ?_; exact zk.h) : p := h ⟨k⟩
theorem Z6n {p q : Prop} (k : q) (h : Hid q → p := by intro zk; refine oq (op_field fld_108_0 rfl) ?_; exact zk.h) : p := h ⟨k⟩
theorem Zci {a0 : Sort _} {a1 : ∀ (zz0 : a0), Sort _} {q : ∀ (zz0 : a0) (zz1 : a1 zz0), Prop} {p : Prop} (k : ∀ (zz0 : a0) (zz1 : a1 zz0), q zz0 zz1) (h : Hid (∀ (zz0 : a0) (zz1 : a1 zz0), q zz0 zz1) → p := by intro zk; refine oi (os_call cb_49 rfl (fun w s => RKidsW_calls _ _ _ _ _ _ _ _ _ _ _ _ _ _ _ _  s (by assumption) (by assumption) (by assumption) (by omega))) ?_; rintro _ _ ⟨zz0, zz1, rfl, rfl⟩; exact zk.h zz0 zz1) : p := h ⟨k⟩
theorem Zcj {p q : Prop} (k : q) (h : Hid q → p := by intro zk; refine oi (os_call cb_74 rfl (fun w s => RplW_calls _ _ _ _ _ _ _ _ _ _ _ _ _ _ _ _  s (by assumption) (by assumption) (by assumption))) ?_; rintro _ _ ⟨rfl, rfl⟩; exact zk.h) : p := h ⟨k⟩
theorem Zdq {p q : Prop} (k : q) (h : Hid q → p := by intro zk; refine cd_loop2 (α := Nat) [(7, 7), (9, 9), (20, 68)] (fun x => [(7, .int .i64 (bestF t.nodes (sumN t.nodes o) ((kidsI t.nodes o.length i).take x))), (20, .int .i64 (x : Int))]) (fun _ => _) (fun x => x ≤ (castL (kidsI t.nodes o.length i)).length) (fun x => (castL (kidsI t.nodes o.length i)).length - x) 0 (Nat.zero_le _) ⟨rfl, rfl, trivial⟩ (fun _ s => s) ?_; exact zk.h) : p := h ⟨k⟩
theorem Z9q {p q : Prop} (k : q) (h : Hid q → p := by intro zk; refine e_q 11 rfl (wn_none rfl) (op_move (v := .bool _) rfl) ?_; exact zk.h) : p := h ⟨k⟩
theorem Zav {p q : Prop} (k : q) (h : Hid q → p := by intro zk; refine et_skip 20 (by kernel_rfl) rfl (by kernel_rfl) (wn_undef rfl rfl rfl rfl) rfl ?_; exact zk.h) : p := h ⟨k⟩
theorem Zaw {p q : Prop} (k : q) (h : Hid q → p := by intro zk; refine et_skip 21 (by kernel_rfl) rfl (by kernel_rfl) (wn_undef rfl rfl rfl rfl) rfl ?_; exact zk.h) : p := h ⟨k⟩
theorem Zax {p q : Prop} (k : q) (h : Hid q → p := by intro zk; refine et_skip 22 (by kernel_rfl) rfl (by kernel_rfl) (wn_undef rfl rfl rfl rfl) rfl ?_; exact zk.h) : p := h ⟨k⟩
theorem Zay {p q : Prop} (k : q) (h : Hid q → p := by intro zk; refine et_skip 23 (by kernel_rfl) rfl (by kernel_rfl) (wn_undef rfl rfl rfl rfl) rfl ?_; exact zk.h) : p := h ⟨k⟩
theorem Zaz {p q : Prop} (k : q) (h : Hid q → p := by intro zk; refine et_skip 24 (by kernel_rfl) rfl (by kernel_rfl) (wn_undef rfl rfl rfl rfl) rfl ?_; exact zk.h) : p := h ⟨k⟩
theorem Zb0 {p q : Prop} (k : q) (h : Hid q → p := by intro zk; refine et_skip 25 (by kernel_rfl) rfl (by kernel_rfl) (wn_undef rfl rfl rfl rfl) rfl ?_; exact zk.h) : p := h ⟨k⟩
theorem Zb1 {p q : Prop} (k : q) (h : Hid q → p := by intro zk; refine et_skip 26 (by kernel_rfl) rfl (by kernel_rfl) (wn_undef rfl rfl rfl rfl) rfl ?_; exact zk.h) : p := h ⟨k⟩
theorem Zb2 {p q : Prop} (k : q) (h : Hid q → p := by intro zk; refine et_skip 27 (by kernel_rfl) rfl (by kernel_rfl) (wn_undef rfl rfl rfl rfl) rfl ?_; exact zk.h) : p := h ⟨k⟩
theorem Zb3 {p q : Prop} (k : q) (h : Hid q → p := by intro zk; refine et_skip 28 (by kernel_rfl) rfl (by kernel_rfl) (wn_undef rfl rfl rfl rfl) rfl ?_; exact zk.h) : p := h ⟨k⟩
theorem Zb4 {p q : Prop} (k : q) (h : Hid q → p := by intro zk; refine et_skip 29 (by kernel_rfl) rfl (by kernel_rfl) (wn_undef rfl rfl rfl rfl) rfl ?_; exact zk.h) : p := h ⟨k⟩
theorem Zb5 {p q : Prop} (k : q) (h : Hid q → p := by intro zk; refine et_skip 30 (by kernel_rfl) rfl (by kernel_rfl) (wn_undef rfl rfl rfl rfl) rfl ?_; exact zk.h) : p := h ⟨k⟩
theorem Zb6 {p q : Prop} (k : q) (h : Hid q → p := by intro zk; refine et_skip 31 (by kernel_rfl) rfl (by kernel_rfl) (wn_undef rfl rfl rfl rfl) rfl ?_; exact zk.h) : p := h ⟨k⟩
theorem Zb7 {p q : Prop} (k : q) (h : Hid q → p := by intro zk; refine et_skip 32 (by kernel_rfl) rfl (by kernel_rfl) (wn_undef rfl rfl rfl rfl) rfl ?_; exact zk.h) : p := h ⟨k⟩
theorem Zb8 {p q : Prop} (k : q) (h : Hid q → p := by intro zk; refine et_skip 33 (by kernel_rfl) rfl (by kernel_rfl) (wn_undef rfl rfl rfl rfl) rfl ?_; exact zk.h) : p := h ⟨k⟩
theorem Zb9 {p q : Prop} (k : q) (h : Hid q → p := by intro zk; refine et_skip 34 (by kernel_rfl) rfl (by kernel_rfl) (wn_undef rfl rfl rfl rfl) rfl ?_; exact zk.h) : p := h ⟨k⟩
theorem Zba {p q : Prop} (k : q) (h : Hid q → p := by intro zk; refine et_skip 35 (by kernel_rfl) rfl (by kernel_rfl) (wn_undef rfl rfl rfl rfl) rfl ?_; exact zk.h) : p := h ⟨k⟩
theorem Zbb {p q : Prop} (k : q) (h : Hid q → p := by intro zk; refine et_skip 36 (by kernel_rfl) rfl (by kernel_rfl) (wn_undef rfl rfl rfl rfl) rfl ?_; exact zk.h) : p := h ⟨k⟩
theorem Zbc {p q : Prop} (k : q) (h : Hid q → p := by intro zk; refine et_skip 37 (by kernel_rfl) rfl (by kernel_rfl) (wn_undef rfl rfl rfl rfl) rfl ?_; exact zk.h) : p := h ⟨k⟩
theorem Zbd {p q : Prop} (k : q) (h : Hid q → p := by intro zk; refine et_skip 38 (by kernel_rfl) rfl (by kernel_rfl) (wn_undef rfl rfl rfl rfl) rfl ?_; exact zk.h) : p := h ⟨k⟩
theorem Zbe {p q : Prop} (k : q) (h : Hid q → p := by intro zk; refine et_skip 39 (by kernel_rfl) rfl (by kernel_rfl) (wn_undef rfl rfl rfl rfl) rfl ?_; exact zk.h) : p := h ⟨k⟩
theorem Z9r {p q : Prop} (k : q) (h : Hid q → p := by intro zk; refine et_1 (i := 40) (by kernel_rfl) ?_; exact zk.h) : p := h ⟨k⟩
theorem Z8n {p q : Prop} (k : q) (h : Hid q → p := by intro zk; refine px_loop2 (j + 1) (by rw [castL_len]; omega) (by (try dsimp only); rw [castL_len]; omega) ⟨congrArg (Value.int .i64) eB.symm, congrArg (Value.int .i64) (by simp), trivial⟩ ?_ (fun _ s => s); exact zk.h) : p := h ⟨k⟩
theorem Zbf {p q : Prop} (k : q) (h : Hid q → p := by intro zk; refine ei_i rfl rfl (wn_some rfl rfl rfl hb3 rfl) (os_back (os_pull6 (os_pull6 (os_pull6 (os_pull6 (os_pull6 (os_pull6 (os_call cb_20 rfl (fun w s => RSum_calls _ _ _ _ _ _ _ _ _ _ _ _ _ _ _ _ _  s (by assumption) (by assumption) (by assumption) (by assumption) rfl (by omega))))))))) (fun _ s => (((((((((s.pull 8).pull 8).pull 7).pull 7).pull 7).pull 7).pull 7).pull 7).pull 8))) rfl ?_; rintro _ _ ⟨rfl, rfl⟩; refine ⟨[], rfl, ?_⟩; exact zk.h) : p := h ⟨k⟩
theorem Zbg {p q : Prop} (k : q) (h : Hid q → p := by intro zk; refine ei_i rfl rfl (wn_some rfl rfl rfl hb4 rfl) (os_back (os_pull6 (os_pull6 (os_pull6 (os_pull6 (os_pull6 (os_pull6 (os_call cb_20 rfl (fun w s => RSum_calls _ _ _ _ _ _ _ _ _ _ _ _ _ _ _ _ _  s (by assumption) (by assumption) (by assumption) (by assumption) rfl (by omega))))))))) (fun _ s => (((((((((s.pull 8).pull 8).pull 7).pull 7).pull 7).pull 7).pull 7).pull 7).pull 8))) rfl ?_; rintro _ _ ⟨rfl, rfl⟩; refine ⟨[], rfl, ?_⟩; exact zk.h) : p := h ⟨k⟩
theorem Zbh {p q : Prop} (k : q) (h : Hid q → p := by intro zk; refine e_q 42 rfl (wn_none rfl) (op_pick_f (v := .bool _) rfl hb4 rfl) ?_; exact zk.h) : p := h ⟨k⟩
theorem Zbi {p q : Prop} (k : q) (h : Hid q → p := by intro zk; refine px_loop2 (j + 1) (by rw [castL_len]; omega) (by (try dsimp only); rw [castL_len]; omega) ⟨congrArg (Value.int .i64) (hb0.symm.trans eB.symm), congrArg (Value.int .i64) (by simp), trivial⟩ ?_ (fun _ s => s); exact zk.h) : p := h ⟨k⟩
theorem Z8o {p q : Prop} (k : q) (h : Hid q → p := by intro zk; refine rg_q (wn_none rfl) (op_ld 1 sc_57 rfl rfl rfl) rfl rfl ?_; exact zk.h) : p := h ⟨k⟩
theorem Zck {a0 : Sort _} {a1 : ∀ (zz0 : a0), Sort _} {q : ∀ (zz0 : a0) (zz1 : a1 zz0), Prop} {p : Prop} (k : ∀ (zz0 : a0) (zz1 : a1 zz0), q zz0 zz1) (h : Hid (∀ (zz0 : a0) (zz1 : a1 zz0), q zz0 zz1) → p := by intro zk; refine rg_i (wn_none rfl) (os_pull1 (os_append (E := encRoot) rfl sB_52 zv_32 rfl rfl rfl (fun w s => (rds_row 1 rfl rfl) [] w s) rfl (by simp; have := rk_le t.nodes a i; have := (rfl : (prR t.nodes a i).length = _); simp [prR, prS, prP, prOm] at *; unfold rk at *; omega) (by unfold maxLen; simp; have := rk_le t.nodes a i; have := (rfl : (prR t.nodes a i).length = _); simp [prR, prS, prP, prOm] at *; unfold rk at *; omega))) rfl rfl ?_; rintro _ _ ⟨zz0, zz1, rfl, rfl⟩; refine ⟨[_, _], rfl, ?_⟩; exact zk.h zz0 zz1) : p := h ⟨k⟩
theorem Zdr {a0 : Sort _} {a1 : ∀ (zz0 : a0), Sort _} {q : ∀ (zz0 : a0) (zz1 : a1 zz0), Prop} {p : Prop} (k : ∀ (zz0 : a0) (zz1 : a1 zz0), q zz0 zz1) (h : Hid (∀ (zz0 : a0) (zz1 : a1 zz0), q zz0 zz1) → p := by intro zk; refine oi (os_append (E := encI64) rfl sB_54 zv_3 rfl rfl rfl (fun w s => (rds_row 1 rfl rfl) [] w s) rfl (by simp; have := rk_le t.nodes a i; have := (rfl : (prR t.nodes a i).length = _); simp [prR, prS, prP, prOm] at *; unfold rk at *; omega) (by unfold maxLen; simp; have := rk_le t.nodes a i; have := (rfl : (prR t.nodes a i).length = _); simp [prR, prS, prP, prOm] at *; unfold rk at *; omega)) ?_; rintro _ _ ⟨zz0, zz1, rfl, rfl⟩; exact zk.h zz0 zz1) : p := h ⟨k⟩
theorem Z9s {p q : Prop} (k : q) (h : Hid q → p := by intro zk; refine rg_q (wn_none rfl) (op_field fld_60_1 rfl) rfl rfl ?_; exact zk.h) : p := h ⟨k⟩
theorem Zds {p : Prop} (h : p := by exact px_ret1 rfl (v := .int _ _) (l' := Blk pm (.cells #[.slice ao xs.length c, .int .i64 n1, .int .i64 n2, .int .i64 n3, .int .i64 n4, .int .i64 n5, .int .i64 n6, .int .i64 n7, .int .i64 n8, .int .i64 n9, .int .i64 n10, .int .i64 n11, .pointer (some ⟨pr, 0, none⟩), .pointer (some ⟨pq, 0, none⟩)] 60 (0, 0)) :: RTreeObj pr t :: RTabObj pq tb :: l) rfl (fun _ s => ((Sat.rtreeMk hw hR rfl rfl rfl (s.del 4)).pull 1)) ⟨rfl, rfl⟩) : p := h
theorem Zbj {p q : Prop} (k : q) (h : Hid q → p := by intro zk; refine ei_i rfl rfl (wn_none rfl) (os_call cb_41 rfl (fun w s => bname_calls _ _ _ _ _ _ _ _ _ _ _ _ _ _ _  s (((((((((hr.cons _).cons _).cons _).cons _).cons _).cons _).cons _).cons _).cons _) (by first | assumption | omega) (by assumption))) rfl ?_; rintro _ _ ⟨rfl, rfl⟩; refine ⟨[_, _, _, _, _], rfl, ?_⟩; exact zk.h) : p := h ⟨k⟩
theorem Zdt {p q : Prop} (k : q) (h : Hid q → p := by intro zk; refine ei_i rfl rfl (wn_none rfl) (os_pull1 (os_pull2 (os_pull3 (os_call cb_6 rfl (fun w s => BAdd_calls _ _ _ _ _ _ _ _ _ _ _ _ _ _ _ _ _ _ _ _ _ _ _  s (by assumption) (by assumption) (((((hr.cons _).cons _).cons _).cons _).cons _)))))) rfl ?_; rintro _ _ ⟨rfl, rfl⟩; refine ⟨[_, _, _, _, _], rfl, ?_⟩; exact zk.h) : p := h ⟨k⟩
theorem Zdu {p q : Prop} (k : q) (h : Hid q → p := by intro zk; refine ei_i rfl rfl (wn_none rfl) (os_pull4 (os_call cb_42 rfl (fun w s => RAdd_calls _ _ _ _ _  s ))) rfl ?_; rintro _ _ ⟨rfl, rfl⟩; refine ⟨[_, _, _, _, _], rfl, ?_⟩; exact zk.h) : p := h ⟨k⟩
theorem Zdv {p : Prop} (h : p := by exact px_ret1 rfl (v := .bool _) rfl (fun _ s => (((((((((s.del 6).del 5).pull 6).pull 1).pull 6).pull 6).pull 6).pull 6).pull 6)) ⟨_, _, _, congrArg Value.bool (by simp), rfl⟩) : p := h
theorem Zdw {p q : Prop} (k : q) (h : Hid q → p := by intro zk; refine oq (op_build (L := voteC _) (vs := [(0, .int _ _), (1, .int _ _), (2, .agg (rootC _).toArray)]) bB_36 rfl ⟨⟨rfl, by rw [voteC_len]; rfl⟩, ⟨rfl, by rw [voteC_len]; rfl⟩, ⟨by simp [Value.cells, rootC_len], by rw [voteC_len]; rfl⟩, trivial⟩ ((voteC_b0 _ _ _).trans ((voteC_b1 _ _ _).trans ((voteC_b2 _ _ _).trans rfl)))) ?_; exact zk.h) : p := h ⟨k⟩
theorem Zbk {p q : Prop} (k : q) (h : Hid q → p := by intro zk; refine rg_q (wn_none rfl) (op_lda (L := voteC _) 0 ag_36 rfl rfl (voteC_ta _) (by simp [voteC_len])) rfl rfl ?_; exact zk.h) : p := h ⟨k⟩
theorem Zdx {p q : Prop} (k : q) (h : Hid q → p := by intro zk; refine rg_i (wn_none rfl) (os_pull1 (os_pull2 (os_pull3 (os_call cb_7 rfl (fun w s => BTake_calls _ _ _ _ _ _ _ _ _ _ _ _ _ _ _ _ _ _ _ _ _  s (by assumption) (by assumption) ((((((hr.cons _).cons _).cons _).cons _).cons _).cons _)))))) rfl rfl ?_; rintro _ _ ⟨rfl, rfl⟩; refine ⟨[_, _, _, _, _, _, _], rfl, ?_⟩; exact zk.h) : p := h ⟨k⟩
theorem Zdy {p q : Prop} (k : q) (h : Hid q → p := by intro zk; refine rg_i (wn_none rfl) (os_pull4 (os_pull5 (os_pull6 (os_call cb_43 rfl (fun w s => RBTake_calls _ _ _ _ _ _ _ _ _ _ _ _ _ _ _ _ _ _ _ _  s ))))) rfl rfl ?_; rintro _ _ ⟨rfl, rfl⟩; refine ⟨[_, _, _, _, _, _, _], rfl, ?_⟩; exact zk.h) : p := h ⟨k⟩
theorem Z8p {p q : Prop} (k : q) (h : Hid q → p := by intro zk; refine rg_q (wn_none rfl) (op_eq rfl rfl) rfl rfl ?_; exact zk.h) : p := h ⟨k⟩
theorem Zdz {p : Prop} (h : p := by exact px_ret1 rfl (v := .bool _) rfl (fun _ s => ((((((((((s.del 9).del 8).del 7).pull 2).pull 2).pull 2).pull 6).pull 6).pull 6).pull 6)) ⟨_, _, _, congrArg Value.bool (by simp), rfl⟩) : p := h
theorem Zbl {p q : Prop} (k : q) (h : Hid q → p := by intro zk; refine cd_draw (M := [_, _, _, _, _]) mx [2, 5] (by kernel_rfl) ?_; exact zk.h) : p := h ⟨k⟩
theorem Ze0 {p q : Prop} (k : q) (h : Hid q → p := by intro zk; refine rg_i (wn_none rfl) (os_pull1 (os_pull2 (os_call cb_8 rfl (fun w s => BKeepN_calls _ _ _ _ _ _ _ _ _ _ _ _ _ _ _ _ _ _ _ _ _  s (by assumption) (by assumption))))) rfl rfl ?_; rintro _ _ ⟨rfl, rfl⟩; refine ⟨[_, _, _, _, _], rfl, ?_⟩; exact zk.h) : p := h ⟨k⟩
theorem Ze1 {p q : Prop} (k : q) (h : Hid q → p := by intro zk; refine rg_i (wn_none rfl) (os_pull3 (os_pull4 (os_call cb_44 rfl (fun w s => RBKeepN_calls _ _ _ _ _ _ _ _ _ _ _ _ _ _ _ _ _ _ _  s (by assumption))))) rfl rfl ?_; rintro _ _ ⟨rfl, rfl⟩; refine ⟨[_, _, _, _, _], rfl, ?_⟩; exact zk.h) : p := h ⟨k⟩
theorem Zbm {p : Prop} (h : p := by exact px_ret1 rfl (v := .bool _) rfl (fun _ s => (((((((((s.del 6).del 5).pull 6).pull 2).pull 2).pull 6).pull 6).pull 6).pull 6)) ⟨_, _, _, congrArg Value.bool (by simp), rfl⟩) : p := h
theorem Ze2 {a0 : Sort _} {a1 : ∀ (zz0 : a0), Sort _} {q : ∀ (zz0 : a0) (zz1 : a1 zz0), Prop} {p : Prop} (k : ∀ (zz0 : a0) (zz1 : a1 zz0), q zz0 zz1) (h : Hid (∀ (zz0 : a0) (zz1 : a1 zz0), q zz0 zz1) → p := by intro zk; refine rg_i (wn_none rfl) (os_pull1 (os_pull2 (os_call cb_8 rfl (fun w s => BKeepS_calls _ _ _ _ _ _ _ _ _ _ _ _ _ _ _ _ _ _ _ _ _ _  s (by assumption) (by assumption))))) rfl rfl ?_; rintro _ _ ⟨zz0, zz1, rfl, rfl⟩; refine ⟨[_, _, _, _, _], rfl, ?_⟩; exact zk.h zz0 zz1) : p := h ⟨k⟩
theorem Ze3 {a0 : Sort _} {q : ∀ (zz0 : a0), Prop} {p : Prop} (k : ∀ (zz0 : a0), q zz0) (h : Hid (∀ (zz0 : a0), q zz0) → p := by intro zk; refine rg_i (wn_none rfl) (os_pull3 (os_pull4 (os_call cb_44 rfl (fun w s => RBKeepS_calls _ _ _ _ _ _ _ _ _ _ _ _ _ _ _ _ _ _ _ _  s (by assumption))))) rfl rfl ?_; rintro _ _ ⟨zz0, rfl, rfl⟩; refine ⟨[_, _, _, _, _], rfl, ?_⟩; exact zk.h zz0) : p := h ⟨k⟩
theorem Ze4 {p q : Prop} (k : q) (h : Hid q → p := by intro zk; refine rg_i (wn_none rfl) (os_call cb_45 rfl (fun w s => RForget_calls _ _ _  s (by omega))) rfl rfl ?_; rintro _ _ ⟨rfl, rfl⟩; refine ⟨[_], rfl, ?_⟩; exact zk.h) : p := h ⟨k⟩
theorem Ze5 {p : Prop} (h : p := by exact px_ret1 rfl (v := .bool _) rfl (fun _ s => ((((((((s.del 4).del 3).pull 6).pull 6).pull 4).pull 6).pull 6).pull 6)) ⟨_, _, _, congrArg Value.bool (by simp), rfl⟩) : p := h
theorem Ze6 {p : Prop} (h : p := by exact px_ret1 rfl (v := .bool _) rfl (fun _ s => ((((((((s.del 7).del 6).del 5).del 4).del 3).del 2).del 1).del 0)) ⟨congrArg Value.bool (by first | rfl | simp), rfl⟩) : p := h
theorem Zcl {p q : Prop} (k : q) (h : Hid q → p := by intro zk; refine px_loop2 (j + 1) (by omega) (by (try dsimp only); omega) ⟨congrArg (Value.int .i64) (by simp), trivial⟩ ?_ (fun _ s => (by (try dsimp only); rw [hst]; exact (s.del 0))); exact zk.h) : p := h ⟨k⟩
theorem Zcm {p : Prop} (h : p := by exact px_ret1 rfl (v := .bool _) rfl (fun _ s => (s.del 0)) ⟨congrArg Value.bool (by first | rfl | simp), rfl⟩) : p := h
theorem Z9t {p q : Prop} (k : q) (h : Hid q → p := by intro zk; refine ol_skip (wn_some rfl rfl rfl hb7 rfl) rfl ?_; exact zk.h) : p := h ⟨k⟩
theorem Zcn {p q : Prop} (k : q) (h : Hid q → p := by intro zk; refine ei_i rfl rfl (wn_some rfl rfl rfl rfl rfl) (os_back (os_pull4 (os_call cb_11 rfl (fun w s => BTree_calls _ _ _ _ _ _ _ _ _ _ _ _ _ _ _ _ _ _  s ))) (fun _ s => (s.push 4))) rfl ?_; rintro _ _ ⟨rfl, rfl⟩; refine ⟨[_, _, _, _, _, _, _, _, _, _], rfl, ?_⟩; exact zk.h) : p := h ⟨k⟩
theorem Z8q {a0 : Sort _} {a1 : ∀ (zz0 : a0), Sort _} {q : ∀ (zz0 : a0) (zz1 : a1 zz0), Prop} {p : Prop} (k : ∀ (zz0 : a0) (zz1 : a1 zz0), q zz0 zz1) (h : Hid (∀ (zz0 : a0) (zz1 : a1 zz0), q zz0 zz1) → p := by intro zk; refine ei_i rfl rfl (wn_some rfl rfl rfl rfl rfl) (os_pull5 (os_call cb_18 rfl (fun w s => Roots_calls _ _  s ))) rfl ?_; rintro _ _ ⟨zz0, zz1, rfl, rfl⟩; refine ⟨[_, _, _, _, _, _, _, _, _, _, _], rfl, ?_⟩; exact zk.h zz0 zz1) : p := h ⟨k⟩
theorem Zco {p q : Prop} (k : q) (h : Hid q → p := by intro zk; refine ei_i rfl rfl (wn_some rfl rfl rfl rfl rfl) (os_q (op_ld 2 sc_52 rfl rfl rfl)) rfl ?_; rintro _ _ ⟨rfl, rfl⟩; refine ⟨[_, _, _, _, _, _, _, _, _, _, _], rfl, ?_⟩; exact zk.h) : p := h ⟨k⟩
theorem Z8r {p q : Prop} (k : q) (h : Hid q → p := by intro zk; refine ei_i rfl rfl (wn_some rfl rfl rfl rfl rfl) (os_call cb_17 rfl (fun w s => Same_calls _ _ _ _ _ _  s (rds_row 0 rfl rfl) (rds_row 3 rfl rfl) (by omega))) rfl ?_; rintro _ _ ⟨rfl, rfl⟩; refine ⟨[_, _, _, _, _, _, _, _, _, _, _], rfl, ?_⟩; exact zk.h) : p := h ⟨k⟩
theorem Z8s {p q : Prop} (k : q) (h : Hid q → p := by intro zk; refine e_q 17 rfl (wn_some rfl rfl rfl rfl rfl) (op_not rfl) ?_; exact zk.h) : p := h ⟨k⟩
theorem Z8t {p q : Prop} (k : q) (h : Hid q → p := by intro zk; refine e_q 18 rfl (wn_none rfl) (op_pick_f (v := .bool _) rfl rfl rfl) ?_; exact zk.h) : p := h ⟨k⟩
theorem Z8u {p q : Prop} (k : q) (h : Hid q → p := by intro zk; refine px_cut (qt12, qw12, qr12) ⟨congrArg Value.bool (by rw [hR9.r]; simp [TreeS.roots]), trivial⟩ ?_ (fun _ s => (Sat.rtreeMk hwO hR9 rfl rfl rfl (((((((((((((s.del 11).del 0).pull 10).pull 10).pull 10).pull 10).pull 10).pull 5).pull 10).pull 10).pull 10).pull 10).pull 10))); exact zk.h) : p := h ⟨k⟩
theorem Ze7 {p q : Prop} (k : q) (h : Hid q → p := by intro zk; refine ei_i rfl rfl (wn_some rfl rfl rfl rfl rfl) (os_q (op_ld 8 sc_57 rfl rfl rfl)) rfl ?_; rintro _ _ ⟨rfl, rfl⟩; refine ⟨[_, _, _, _, _, _, _, _, _, _], rfl, ?_⟩; exact zk.h) : p := h ⟨k⟩
theorem Zcp {p q : Prop} (k : q) (h : Hid q → p := by intro zk; refine ei_i rfl rfl (wn_some rfl rfl rfl rfl rfl) (os_q (op_ld 0 sc_52 rfl rfl rfl)) rfl ?_; rintro _ _ ⟨rfl, rfl⟩; refine ⟨[_, _, _, _, _, _, _, _, _, _], rfl, ?_⟩; exact zk.h) : p := h ⟨k⟩
theorem Zd {p q : Prop} (k : q) (h : Hid q → p := by intro zk; refine Zq ?_; refine Z0 ?_; exact zk.h) : p := h ⟨k⟩
theorem Zv {p q : Prop} (k : q) (h : Hid q → p := by intro zk; refine Z7 ?_; refine Z1 ?_; exact zk.h) : p := h ⟨k⟩
theorem Za {p q : Prop} (k : q) (h : Hid q → p := by intro zk; refine cd_skip ?_; refine px_then ?_; exact zk.h) : p := h ⟨k⟩
theorem Z9 {p q : Prop} (k : q) (h : Hid q → p := by intro zk; refine oq (op_assign (v := .bool _) rfl) ?_; refine Z0 ?_; exact zk.h) : p := h ⟨k⟩
theorem Z8v {p q : Prop} (k : q) (h : Hid q → p := by intro zk; refine px_blockN ?_; refine px_then ?_; exact zk.h) : p := h ⟨k⟩
theorem Zbn {p q : Prop} (k : q) (h : Hid q → p := by intro zk; refine Z8v ?_; refine Z22 ?_; exact zk.h) : p := h ⟨k⟩
theorem Z10 {p q : Prop} (k : q) (h : Hid q → p := by intro zk; refine Zd ?_; refine cd_ret ?_; exact zk.h) : p := h ⟨k⟩
theorem Z1c {p q : Prop} (k : q) (h : Hid q → p := by intro zk; refine Z1 ?_; refine Z4 ?_; exact zk.h) : p := h ⟨k⟩
theorem Zc {p q : Prop} (k : q) (h : Hid q → p := by intro zk; refine Z1 ?_; refine Z1j ?_; exact zk.h) : p := h ⟨k⟩
theorem Zbo {p q : Prop} (k : q) (h : Hid q → p := by intro zk; refine Za2 ?_; refine Z4 ?_; exact zk.h) : p := h ⟨k⟩
theorem Zbp {p q : Prop} (k : q) (h : Hid q → p := by intro zk; refine Zbo ?_; refine ol_nil ?_; exact zk.h) : p := h ⟨k⟩
theorem Zr {p q : Prop} (k : q) (h : Hid q → p := by intro zk; refine Za ?_; refine Z7 ?_; exact zk.h) : p := h ⟨k⟩
theorem Z34 {p q : Prop} (k : q) (h : Hid q → p := by intro zk; refine Zbn ?_; refine Zbp ?_; exact zk.h) : p := h ⟨k⟩
theorem Z6 {p q : Prop} (k : q) (h : Hid q → p := by intro zk; refine Zi ?_; refine Z8y ?_; exact zk.h) : p := h ⟨k⟩
theorem Zfd {p q : Prop} (k : q) (h : Hid q → p := by intro zk; refine Z3t ?_; refine ei_iN rfl rfl (wn_none rfl) (os_pull4 (os_store (v := .slice _ _ _) sc_54 rfl rfl rfl rfl (Free.zero _) rfl)) ?_; rintro _ _ ⟨rfl, rfl⟩; refine ⟨[_, _, _, _, _], rfl, ?_⟩; exact zk.h) : p := h ⟨k⟩
theorem Ze8 {p q : Prop} (k : q) (h : Hid q → p := by intro zk; refine Zfd ?_; refine e_q 17 rfl (wn_none rfl) (op_nilck rfl) ?_; exact zk.h) : p := h ⟨k⟩
theorem Zfe {p q : Prop} (k : q) (h : Hid q → p := by intro zk; refine et_1 (i := 19) (by kernel_rfl) ?_; refine ei_iN rfl rfl (wn_none rfl) (os_store (v := .slice _ _ _) sc_54 rfl rfl rfl rfl (Free.zero _) rfl) ?_; rintro _ _ ⟨rfl, rfl⟩; refine ⟨[_, _, _, _, _], rfl, ?_⟩; exact zk.h) : p := h ⟨k⟩
theorem Ze9 {p q : Prop} (k : q) (h : Hid q → p := by intro zk; refine Zfe ?_; refine Z5h ?_; exact zk.h) : p := h ⟨k⟩
theorem Zh {p q : Prop} (k : q) (h : Hid q → p := by intro zk; refine Z9 ?_; refine cd_ret ?_; exact zk.h) : p := h ⟨k⟩
theorem Ze {p q : Prop} (k : q) (h : Hid q → p := by intro zk; refine Zv ?_; refine Z4 ?_; exact zk.h) : p := h ⟨k⟩
theorem Z2h {p q : Prop} (k : q) (h : Hid q → p := by intro zk; refine px_blockR ?_; refine Zs ?_; exact zk.h) : p := h ⟨k⟩
theorem Zbq {p q : Prop} (k : q) (h : Hid q → p := by intro zk; refine px_thenE ?_; refine px_blockE ?_; exact zk.h) : p := h ⟨k⟩
theorem Z1s {p q : Prop} (k : q) (h : Hid q → p := by intro zk; refine Zq ?_; refine ol_nil ?_; exact zk.h) : p := h ⟨k⟩
theorem Z1g {p q : Prop} (k : q) (h : Hid q → p := by intro zk; refine Z1 ?_; refine Z10 ?_; exact zk.h) : p := h ⟨k⟩
theorem Zea {p q : Prop} (k : q) (h : Hid q → p := by intro zk; refine px_thenE ?_; refine Zbq ?_; exact zk.h) : p := h ⟨k⟩
theorem Zff {p q : Prop} (k : q) (h : Hid q → p := by intro zk; refine Z1w ?_; refine ei_iN rfl rfl (wn_none rfl) (os_pull2 (os_storew (wC _) ag_152 rfl rfl (by rw [wC_len]; exact q.w.2) (wC_one _) (by simp [wC_len, w8C_len]) (Free.zero _))) ?_; rintro _ _ ⟨rfl, rfl⟩; refine ⟨[_, _, _], rfl, ?_⟩; exact zk.h) : p := h ⟨k⟩
theorem Zeb {p q : Prop} (k : q) (h : Hid q → p := by intro zk; refine Zff ?_; refine Z5h ?_; exact zk.h) : p := h ⟨k⟩
theorem Z72 {p q : Prop} (k : q) (h : Hid q → p := by intro zk; refine cd_exit ?_; refine Zea ?_; exact zk.h) : p := h ⟨k⟩
theorem Z2i {p q : Prop} (k : q) (h : Hid q → p := by intro zk; refine e_q 23 rfl (wn_none rfl) (op_xor32 _ _ rfl rfl) ?_; refine e_q 26 rfl (wn_none rfl) (op_xor32 _ _ rfl rfl) ?_; exact zk.h) : p := h ⟨k⟩
theorem Z2j {p q : Prop} (k : q) (h : Hid q → p := by intro zk; refine Z0 ?_; refine Z7 ?_; exact zk.h) : p := h ⟨k⟩
theorem Zw {a0 : Sort _} {q : ∀ (zz0 : a0), Prop} {p : Prop} (k : ∀ (zz0 : a0), q zz0) (h : Hid (∀ (zz0 : a0), q zz0) → p := by intro zk; refine Z1 ?_; refine Z2c ?_; intro zz0; exact zk.h zz0) : p := h ⟨k⟩
theorem Z3d {p q : Prop} (k : q) (h : Hid q → p := by intro zk; refine Zr ?_; refine cd_block ?_; exact zk.h) : p := h ⟨k⟩
theorem Zx {p q : Prop} (k : q) (h : Hid q → p := by intro zk; refine Z72 ?_; refine px_then ?_; exact zk.h) : p := h ⟨k⟩
theorem Z1y {p q : Prop} (k : q) (h : Hid q → p := by intro zk; refine Z0 ?_; refine Z3s ?_; exact zk.h) : p := h ⟨k⟩
theorem Z3e {p q : Prop} (k : q) (h : Hid q → p := by intro zk; refine Zv ?_; refine Z1j ?_; exact zk.h) : p := h ⟨k⟩
theorem Z51 {p q : Prop} (k : q) (h : Hid q → p := by intro zk; refine Zbn ?_; refine Z4 ?_; exact zk.h) : p := h ⟨k⟩
theorem Z3o {p q : Prop} (k : q) (h : Hid q → p := by intro zk; refine Z0 ?_; refine cd_block ?_; exact zk.h) : p := h ⟨k⟩
theorem Zbr {p q : Prop} (k : q) (h : Hid q → p := by intro zk; refine Za2 ?_; refine Z1s ?_; exact zk.h) : p := h ⟨k⟩
theorem Zfg {p q : Prop} (k : q) (h : Hid q → p := by intro zk; refine e_q 14 rfl (wn_none rfl) (op_nilck rfl) ?_; refine e_q 15 rfl (wn_none rfl) (op_field fld_129_1 rfl) ?_; exact zk.h) : p := h ⟨k⟩
theorem Zfh {p q : Prop} (k : q) (h : Hid q → p := by intro zk; refine Zfg ?_; refine Ze8 ?_; exact zk.h) : p := h ⟨k⟩
theorem Zfi {p q : Prop} (k : q) (h : Hid q → p := by intro zk; refine Zfh ?_; refine e_q 18 rfl (wn_none rfl) (op_field fld_129_2 rfl) ?_; exact zk.h) : p := h ⟨k⟩
theorem Zk {p q : Prop} (k : q) (h : Hid q → p := by intro zk; refine Zfi ?_; refine Ze9 ?_; exact zk.h) : p := h ⟨k⟩
theorem Zfj {p q : Prop} (k : q) (h : Hid q → p := by intro zk; refine e_q 14 rfl (wn_none rfl) (op_nilck rfl) ?_; refine e_q 15 rfl (wn_none rfl) (op_field fld_129_3 rfl) ?_; exact zk.h) : p := h ⟨k⟩
theorem Zfk {p q : Prop} (k : q) (h : Hid q → p := by intro zk; refine Zfj ?_; refine Ze8 ?_; exact zk.h) : p := h ⟨k⟩
theorem Zfl {p q : Prop} (k : q) (h : Hid q → p := by intro zk; refine Zfk ?_; refine e_q 18 rfl (wn_none rfl) (op_field fld_129_4 rfl) ?_; exact zk.h) : p := h ⟨k⟩
theorem Zfm {p q : Prop} (k : q) (h : Hid q → p := by intro zk; refine Zfl ?_; refine Ze9 ?_; exact zk.h) : p := h ⟨k⟩
theorem Zl {p q : Prop} (k : q) (h : Hid q → p := by intro zk; refine Zfm ?_; refine px_blockN ?_; exact zk.h) : p := h ⟨k⟩
theorem Zec {p q : Prop} (k : q) (h : Hid q → p := by intro zk; refine Z2i ?_; refine e_q 27 rfl (wn_none rfl) (op_add32 _ _ rfl rfl) ?_; exact zk.h) : p := h ⟨k⟩
theorem Z2t {p q : Prop} (k : q) (h : Hid q → p := by intro zk; refine Z3l ?_; refine Z3l ?_; exact zk.h) : p := h ⟨k⟩
theorem Zm {p q : Prop} (k : q) (h : Hid q → p := by intro zk; refine Zh ?_; refine Zs ?_; exact zk.h) : p := h ⟨k⟩
theorem Zfn {p q : Prop} (k : q) (h : Hid q → p := by intro zk; refine Z1 ?_; refine Z59 ?_; exact zk.h) : p := h ⟨k⟩
theorem Zn {p q : Prop} (k : q) (h : Hid q → p := by intro zk; refine Zfn ?_; refine Z2j ?_; exact zk.h) : p := h ⟨k⟩
theorem Z61 {p q : Prop} (k : q) (h : Hid q → p := by intro zk; refine Z51 ?_; refine Zbr ?_; exact zk.h) : p := h ⟨k⟩
theorem Z1h {p q : Prop} (k : q) (h : Hid q → p := by intro zk; refine Z0 ?_; refine cd_ret ?_; exact zk.h) : p := h ⟨k⟩
theorem Z1z {p q : Prop} (k : q) (h : Hid q → p := by intro zk; refine Z1g ?_; refine Zs ?_; exact zk.h) : p := h ⟨k⟩
theorem Z2k {p q : Prop} (k : q) (h : Hid q → p := by intro zk; refine Z1 ?_; refine Zf ?_; exact zk.h) : p := h ⟨k⟩
theorem Zbs {p q : Prop} (k : q) (h : Hid q → p := by intro zk; refine Z5h ?_; refine Z34 ?_; exact zk.h) : p := h ⟨k⟩
theorem Zt {p : Prop} (h : p := by refine px_loop2 (i + 1) (by omega) (by (try dsimp only); omega) ⟨congrArg (Value.int .i64) (by simp), trivial⟩ ?_ (fun _ s => (by (try dsimp only); rw [e1]; exact s)); exact Z2) : p := h
theorem Z11 {p : Prop} (h : p := by refine px_loop2 (k + 1) (by omega) (by (try dsimp only); omega) ⟨congrArg (Value.int .i64) (by omega), trivial⟩ ?_ (fun _ s => (by (try dsimp only); rw [e1]; exact s)); exact Z2) : p := h
theorem Z12 {p q : Prop} (k : q) (h : Hid q → p := by intro zk; refine Z4 ?_; refine Z3o ?_; exact zk.h) : p := h ⟨k⟩
theorem Zfo {p q : Prop} (k : q) (h : Hid q → p := by intro zk; refine e_q 28 rfl (wn_none rfl) (op_aidx0 (k + 16) a1_156 rfl rfl rfl (by omega)) ?_; refine et_1 (i := 29) (by kernel_rfl) ?_; exact zk.h) : p := h ⟨k⟩
theorem Zfp {p q : Prop} (k : q) (h : Hid q → p := by intro zk; refine Zfo ?_; refine ei_iN rfl rfl (wn_none rfl) (os_store (v := .int _ _) sc_151 rfl rfl rfl (Nat.ble_eq_true_of_le (show k + 16 + 1 ≤ _ by rw [List.size_toArray, wC_len, hfl]; omega)) (Free.zero _) (fillA_st (by rw [hml]) (by rw [hml]; omega) _)) ?_; rintro _ _ ⟨rfl, rfl⟩; refine ⟨[_], rfl, ?_⟩; exact zk.h) : p := h ⟨k⟩
theorem Zfq {p q : Prop} (k : q) (h : Hid q → p := by intro zk; refine Zfp ?_; refine Z5h ?_; exact zk.h) : p := h ⟨k⟩
theorem Z52 {p q : Prop} (k : q) (h : Hid q → p := by intro zk; refine Zfq ?_; refine Z61 ?_; exact zk.h) : p := h ⟨k⟩
theorem Zfr {p q : Prop} (k : q) (h : Hid q → p := by intro zk; refine Z2n ?_; refine ei_iN rfl rfl (wn_none rfl) (os_pull2 (os_storew (wC _) ag_156 rfl rfl (by rw [wC_len]; rfl) (wC_one _) (by simp [wC_len, w8C_len]) (Free.zero _))) ?_; rintro _ _ ⟨rfl, rfl⟩; refine ⟨[_, _, _], rfl, ?_⟩; exact zk.h) : p := h ⟨k⟩
theorem Z13 {p q : Prop} (k : q) (h : Hid q → p := by intro zk; refine Zfr ?_; refine Zeb ?_; exact zk.h) : p := h ⟨k⟩
theorem Zfs {p q : Prop} (k : q) (h : Hid q → p := by intro zk; refine Z2n ?_; refine ei_iN rfl rfl (wn_none rfl) (os_pull1 (os_storew (wC _) ag_156 rfl rfl (by rw [wC_len]; rfl) (wC_one _) (by simp [wC_len, w8C_len]) (Free.zero _))) ?_; rintro _ _ ⟨rfl, rfl⟩; refine ⟨[_, _, _], rfl, ?_⟩; exact zk.h) : p := h ⟨k⟩
theorem Z14 {p q : Prop} (k : q) (h : Hid q → p := by intro zk; refine Zfs ?_; refine Zeb ?_; exact zk.h) : p := h ⟨k⟩
theorem Z15 {p q : Prop} (k : q) (h : Hid q → p := by intro zk; refine Zp ?_; refine e_q 9 rfl (wn_none rfl) (op_add32 _ _ rfl rfl) ?_; exact zk.h) : p := h ⟨k⟩
theorem Zft {p q : Prop} (k : q) (h : Hid q → p := by intro zk; refine e_q 28 rfl (wn_none rfl) (op_aidx0 i a1_156 rfl rfl rfl (by omega)) ?_; refine et_1 (i := 29) (by kernel_rfl) ?_; exact zk.h) : p := h ⟨k⟩
theorem Zfu {p q : Prop} (k : q) (h : Hid q → p := by intro zk; refine Zft ?_; refine ei_iN rfl rfl (wn_none rfl) (os_store (v := .int _ _) sc_151 rfl rfl rfl (Nat.ble_eq_true_of_le (show i + 1 ≤ _ by rw [List.size_toArray, wC_len, fillA_len (by rw [hml]; omega)]; omega)) (Free.zero _) (fillA_st hml.symm (by rw [hml]; omega) _)) ?_; rintro _ _ ⟨rfl, rfl⟩; refine ⟨[_], rfl, ?_⟩; exact zk.h) : p := h ⟨k⟩
theorem Z53 {p q : Prop} (k : q) (h : Hid q → p := by intro zk; refine Zfu ?_; refine Zbs ?_; exact zk.h) : p := h ⟨k⟩
theorem Z16 {p q : Prop} (k : q) (h : Hid q → p := by intro zk; refine Z0 ?_; refine Z1 ?_; exact zk.h) : p := h ⟨k⟩
theorem Z3x {p q : Prop} (k : q) (h : Hid q → p := by intro zk; refine Z0 ?_; refine Z68 ?_; exact zk.h) : p := h ⟨k⟩
theorem Z17 {p q : Prop} (k : q) (h : Hid q → p := by intro zk; refine Zc ?_; refine Zj ?_; exact zk.h) : p := h ⟨k⟩
theorem Z35 {p q : Prop} (k : q) (h : Hid q → p := by intro zk; refine Z1c ?_; refine Z10 ?_; exact zk.h) : p := h ⟨k⟩
theorem Z18 {p q : Prop} (k : q) (h : Hid q → p := by intro zk; refine Z5r ?_; refine Z5r ?_; exact zk.h) : p := h ⟨k⟩
theorem Z73 {p q : Prop} (k : q) (h : Hid q → p := by intro zk; refine Ze ?_; refine Z4x ?_; exact zk.h) : p := h ⟨k⟩
theorem Z74 {a0 : Sort _} {a1 : ∀ (zz0 : a0), Sort _} {q : ∀ (zz0 : a0) (zz1 : a1 zz0), Prop} {p : Prop} (k : ∀ (zz0 : a0) (zz1 : a1 zz0), q zz0 zz1) (h : Hid (∀ (zz0 : a0) (zz1 : a1 zz0), q zz0 zz1) → p := by intro zk; refine Z5t ?_; refine ei_i rfl rfl (wn_none rfl) (os_pull4 (os_append (E := encI64) rfl sB_54 zv_3 rfl rfl rfl (fun w s => (rds_row 2 rfl rfl) [] w s) rfl (by simp; omega) (by unfold maxLen; simp; omega))) rfl ?_; rintro _ _ ⟨zz0, zz1, rfl, rfl⟩; refine ⟨[_, _, _, _, _], rfl, ?_⟩; exact zk.h zz0 zz1) : p := h ⟨k⟩
theorem Z1m {a0 : Sort _} {a1 : ∀ (zz0 : a0), Sort _} {a2 : ∀ (zz0 : a0) (zz1 : a1 zz0), Sort _} {a3 : ∀ (zz0 : a0) (zz1 : a1 zz0) (zz2 : a2 zz0 zz1), Sort _} {q : ∀ (zz0 : a0) (zz1 : a1 zz0) (zz2 : a2 zz0 zz1) (zz3 : a3 zz0 zz1 zz2), Prop} {p : Prop} (k : ∀ (zz0 : a0) (zz1 : a1 zz0) (zz2 : a2 zz0 zz1) (zz3 : a3 zz0 zz1 zz2), q zz0 zz1 zz2 zz3) (h : Hid (∀ (zz0 : a0) (zz1 : a1 zz0) (zz2 : a2 zz0 zz1) (zz3 : a3 zz0 zz1 zz2), q zz0 zz1 zz2 zz3) → p := by intro zk; refine Z6t ?_; intro zz0 zz1; refine Z74 ?_; intro zz2 zz3; exact zk.h zz0 zz1 zz2 zz3) : p := h ⟨k⟩
theorem Z75 {a0 : Sort _} {a1 : ∀ (zz0 : a0), Sort _} {q : ∀ (zz0 : a0) (zz1 : a1 zz0), Prop} {p : Prop} (k : ∀ (zz0 : a0) (zz1 : a1 zz0), q zz0 zz1) (h : Hid (∀ (zz0 : a0) (zz1 : a1 zz0), q zz0 zz1) → p := by intro zk; refine Z5t ?_; refine ei_i rfl rfl (wn_none rfl) (os_pull4 (os_append (E := encI64) rfl sB_54 zv_3 rfl rfl rfl (fun w s => (rds_row 3 rfl rfl) [] w s) rfl (by simp; omega) (by unfold maxLen; simp; omega))) rfl ?_; rintro _ _ ⟨zz0, zz1, rfl, rfl⟩; refine ⟨[_, _, _, _, _], rfl, ?_⟩; exact zk.h zz0 zz1) : p := h ⟨k⟩
theorem Z1n {a0 : Sort _} {a1 : ∀ (zz0 : a0), Sort _} {a2 : ∀ (zz0 : a0) (zz1 : a1 zz0), Sort _} {a3 : ∀ (zz0 : a0) (zz1 : a1 zz0) (zz2 : a2 zz0 zz1), Sort _} {q : ∀ (zz0 : a0) (zz1 : a1 zz0) (zz2 : a2 zz0 zz1) (zz3 : a3 zz0 zz1 zz2), Prop} {p : Prop} (k : ∀ (zz0 : a0) (zz1 : a1 zz0) (zz2 : a2 zz0 zz1) (zz3 : a3 zz0 zz1 zz2), q zz0 zz1 zz2 zz3) (h : Hid (∀ (zz0 : a0) (zz1 : a1 zz0) (zz2 : a2 zz0 zz1) (zz3 : a3 zz0 zz1 zz2), q zz0 zz1 zz2 zz3) → p := by intro zk; refine Z6u ?_; intro zz0 zz1; refine Z75 ?_; intro zz2 zz3; exact zk.h zz0 zz1 zz2 zz3) : p := h ⟨k⟩
theorem Z1i {p q : Prop} (k : q) (h : Hid q → p := by intro zk; refine Z7 ?_; refine Z79 ?_; exact zk.h) : p := h ⟨k⟩
theorem Z5o {p q : Prop} (k : q) (h : Hid q → p := by intro zk; refine Zd ?_; refine Z3e ?_; exact zk.h) : p := h ⟨k⟩
theorem Zed {p q : Prop} (k : q) (h : Hid q → p := by intro zk; refine Z2h ?_; refine Zs ?_; exact zk.h) : p := h ⟨k⟩
theorem Z3y {p q : Prop} (k : q) (h : Hid q → p := by intro zk; refine Z5u ?_; refine Z1b ?_; exact zk.h) : p := h ⟨k⟩
theorem Zee {p q : Prop} (k : q) (h : Hid q → p := by intro zk; refine Z2g ?_; refine et_1 (i := 20) (by kernel_rfl) ?_; exact zk.h) : p := h ⟨k⟩
theorem Zfv {p q : Prop} (k : q) (h : Hid q → p := by intro zk; refine Z9c ?_; refine ei_i rfl rfl (wn_none rfl) (os_call cb_104 rfl (fun w s => keys_calls  s )) rfl ?_; rintro _ _ ⟨rfl, rfl⟩; refine ⟨[_, _, _], rfl, ?_⟩; exact zk.h) : p := h ⟨k⟩
theorem Z1o {p q : Prop} (k : q) (h : Hid q → p := by intro zk; refine Zfv ?_; refine Z1e ?_; exact zk.h) : p := h ⟨k⟩
theorem Z1t {p q : Prop} (k : q) (h : Hid q → p := by intro zk; refine Zed ?_; refine Z2h ?_; exact zk.h) : p := h ⟨k⟩
theorem Z1u {p q : Prop} (k : q) (h : Hid q → p := by intro zk; refine Zx ?_; refine Z1 ?_; exact zk.h) : p := h ⟨k⟩
theorem Z3z {p q : Prop} (k : q) (h : Hid q → p := by intro zk; refine Zd ?_; refine Z1c ?_; exact zk.h) : p := h ⟨k⟩
theorem Zfw {p q : Prop} (k : q) (h : Hid q → p := by intro zk; refine Z5 ?_; refine Z3r ?_; exact zk.h) : p := h ⟨k⟩
theorem Z62 {p q : Prop} (k : q) (h : Hid q → p := by intro zk; refine Zfw ?_; refine Z3r ?_; exact zk.h) : p := h ⟨k⟩
theorem Z1v {p q : Prop} (k : q) (h : Hid q → p := by intro zk; refine Zy ?_; refine cd_ret ?_; exact zk.h) : p := h ⟨k⟩
theorem Z1p {a0 : Sort _} {q : ∀ (zz0 : a0), Prop} {p : Prop} (k : ∀ (zz0 : a0), q zz0) (h : Hid (∀ (zz0 : a0), q zz0) → p := by intro zk; refine Z1d ?_; intro zz0; refine Z1b ?_; exact zk.h zz0) : p := h ⟨k⟩
theorem Z1q {a0 : Sort _} {q : ∀ (zz0 : a0), Prop} {p : Prop} (k : ∀ (zz0 : a0), q zz0) (h : Hid (∀ (zz0 : a0), q zz0) → p := by intro zk; refine Z2s ?_; intro zz0; refine Z1e ?_; exact zk.h zz0) : p := h ⟨k⟩
theorem Z5p {p q : Prop} (k : q) (h : Hid q → p := by intro zk; refine Z3d ?_; refine Z1c ?_; exact zk.h) : p := h ⟨k⟩
theorem Z5q {p q : Prop} (k : q) (h : Hid q → p := by intro zk; refine Z73 ?_; refine Z0 ?_; exact zk.h) : p := h ⟨k⟩
theorem Z29 {p q : Prop} (k : q) (h : Hid q → p := by intro zk; refine cd_skip ?_; refine Z34 ?_; exact zk.h) : p := h ⟨k⟩
theorem Zfx {p q : Prop} (k : q) (h : Hid q → p := by intro zk; refine et_1 (i := 22) (by kernel_rfl) ?_; refine Z5m ?_; exact zk.h) : p := h ⟨k⟩
theorem Zfy {p q : Prop} (k : q) (h : Hid q → p := by intro zk; refine Zfx ?_; refine Zec ?_; exact zk.h) : p := h ⟨k⟩
theorem Z63 {p q : Prop} (k : q) (h : Hid q → p := by intro zk; refine Zfy ?_; refine Z52 ?_; exact zk.h) : p := h ⟨k⟩
theorem Z2a {p q : Prop} (k : q) (h : Hid q → p := by intro zk; refine Z2g ?_; refine e_q 27 rfl (wn_none rfl) (op_add32 _ _ rfl rfl) ?_; exact zk.h) : p := h ⟨k⟩
theorem Zfz {p q : Prop} (k : q) (h : Hid q → p := by intro zk; refine et_1 (i := 22) (by kernel_rfl) ?_; refine Z5n ?_; exact zk.h) : p := h ⟨k⟩
theorem Zg0 {p q : Prop} (k : q) (h : Hid q → p := by intro zk; refine Zfz ?_; refine Zec ?_; exact zk.h) : p := h ⟨k⟩
theorem Z64 {p q : Prop} (k : q) (h : Hid q → p := by intro zk; refine Zg0 ?_; refine Z53 ?_; exact zk.h) : p := h ⟨k⟩
theorem Z2l {p q : Prop} (k : q) (h : Hid q → p := by intro zk; refine Z3d ?_; refine Z1 ?_; exact zk.h) : p := h ⟨k⟩
theorem Z6o {p q : Prop} (k : q) (h : Hid q → p := by intro zk; refine Z22 ?_; refine Z1j ?_; exact zk.h) : p := h ⟨k⟩
theorem Z36 {p q : Prop} (k : q) (h : Hid q → p := by intro zk; refine Za4 ?_; refine Za4 ?_; exact zk.h) : p := h ⟨k⟩
theorem Z2p {p q : Prop} (k : q) (h : Hid q → p := by intro zk; refine Z22 ?_; refine Z4 ?_; exact zk.h) : p := h ⟨k⟩
theorem Zcq {a0 : Sort _} {q : ∀ (zz0 : a0), Prop} {p : Prop} (k : ∀ (zz0 : a0), q zz0) (h : Hid (∀ (zz0 : a0), q zz0) → p := by intro zk; refine ei_i rfl rfl (wn_none rfl) (os_boxa rfl) rfl ?_; rintro _ _ ⟨zz0, rfl, rfl⟩; refine ⟨[_, _, _], rfl, ?_⟩; refine e_q 11 rfl (wn_none rfl) (op_assign (v := .pointer _) rfl) ?_; exact zk.h zz0) : p := h ⟨k⟩
theorem Z2u {p q : Prop} (k : q) (h : Hid q → p := by intro zk; refine Z3x ?_; refine Za ?_; exact zk.h) : p := h ⟨k⟩
theorem Z2v {p q : Prop} (k : q) (h : Hid q → p := by intro zk; refine Z5 ?_; refine Z3m ?_; exact zk.h) : p := h ⟨k⟩
theorem Z2w {p q : Prop} (k : q) (h : Hid q → p := by intro zk; refine Z59 ?_; refine Z0 ?_; exact zk.h) : p := h ⟨k⟩
theorem Z2x {p q : Prop} (k : q) (h : Hid q → p := by intro zk; refine Z1y ?_; refine Z1z ?_; exact zk.h) : p := h ⟨k⟩
theorem Z2y {p q : Prop} (k : q) (h : Hid q → p := by intro zk; refine ol_nil ?_; refine Z34 ?_; exact zk.h) : p := h ⟨k⟩
theorem Zef {p q : Prop} (k : q) (h : Hid q → p := by intro zk; refine e_q 38 rfl (wn_some rfl rfl rfl hb5 rfl) (op_index (kidsI t.nodes o.length i)[j] sB_52 rfl rfl rfl (rds_row 2 rfl rfl) rfl (by omega)) ?_; refine e_q 39 rfl (wn_some rfl rfl rfl hb5 rfl) (op_ldaw (L := rootC _) ag_32 (rds_row 2 rfl rfl) rfl (by omega) rfl (rootC_ta _)) ?_; exact zk.h) : p := h ⟨k⟩
theorem Z2m {p q : Prop} (k : q) (h : Hid q → p := by intro zk; refine Z9y ?_; refine Z9y ?_; exact zk.h) : p := h ⟨k⟩
theorem Z2z {p q : Prop} (k : q) (h : Hid q → p := by intro zk; refine ol_pull5 ?_; refine ol_pull5 ?_; exact zk.h) : p := h ⟨k⟩
theorem Zcr {p q : Prop} (k : q) (h : Hid q → p := by intro zk; refine e_q 13 rfl (wn_some rfl rfl rfl rfl rfl) (op_nilck rfl) ?_; refine e_q 14 rfl (wn_some rfl rfl rfl rfl rfl) (op_field fld_56_0 rfl) ?_; exact zk.h) : p := h ⟨k⟩
theorem Z37 {p q : Prop} (k : q) (h : Hid q → p := by intro zk; refine Z2n ?_; refine ei_i rfl rfl (wn_none rfl) (os_q (op_ld 3 sc_54 rfl rfl rfl)) rfl ?_; rintro _ _ ⟨rfl, rfl⟩; refine ⟨[_, _, _, _, _], rfl, ?_⟩; exact zk.h) : p := h ⟨k⟩
theorem Z40 {p q : Prop} (k : q) (h : Hid q → p := by intro zk; refine Za3 ?_; refine Za3 ?_; exact zk.h) : p := h ⟨k⟩
theorem Z9u {a0 : Sort _} {a1 : ∀ (zz0 : a0), Sort _} {q : ∀ (zz0 : a0) (zz1 : a1 zz0), Prop} {p : Prop} (k : ∀ (zz0 : a0) (zz1 : a1 zz0), q zz0 zz1) (h : Hid (∀ (zz0 : a0) (zz1 : a1 zz0), q zz0 zz1) → p := by intro zk; refine Z5t ?_; refine ei_i rfl rfl (wn_none rfl) (os_pull4 (os_append (E := encI64) rfl sB_54 zv_3 rfl rfl rfl (fun w s => (rds_row 1 rfl rfl) [] w s) rfl (by simp; omega) (by unfold maxLen; simp; omega))) rfl ?_; rintro _ _ ⟨zz0, zz1, rfl, rfl⟩; refine ⟨[_, _, _, _, _], rfl, ?_⟩; exact zk.h zz0 zz1) : p := h ⟨k⟩
theorem Z38 {a0 : Sort _} {a1 : ∀ (zz0 : a0), Sort _} {a2 : ∀ (zz0 : a0) (zz1 : a1 zz0), Sort _} {q : ∀ (zz0 : a0) (zz1 : a1 zz0) (zz2 : a2 zz0 zz1), Prop} {p : Prop} (k : ∀ (zz0 : a0) (zz1 : a1 zz0) (zz2 : a2 zz0 zz1), q zz0 zz1 zz2) (h : Hid (∀ (zz0 : a0) (zz1 : a1 zz0) (zz2 : a2 zz0 zz1), q zz0 zz1 zz2) → p := by intro zk; refine Z1d ?_; intro zz0; refine Z9u ?_; intro zz1 zz2; exact zk.h zz0 zz1 zz2) : p := h ⟨k⟩
theorem Zcs {p q : Prop} (k : q) (h : Hid q → p := by intro zk; refine rg_q (wn_none rfl) (op_field fld_66_0 rfl) rfl rfl ?_; refine rg_q (wn_none rfl) (op_ld 0 sc_3 rfl rfl (valC_a0 _)) rfl rfl ?_; exact zk.h) : p := h ⟨k⟩
theorem Zeg {p q : Prop} (k : q) (h : Hid q → p := by intro zk; refine e_q 28 rfl (wn_some rfl rfl rfl hb5 rfl) (op_index b0 sB_52 rfl rfl rfl (rds_row 2 rfl rfl) rfl (by omega)) ?_; refine e_q 29 rfl (wn_some rfl rfl rfl hb5 rfl) (op_ldaw (L := rootC _) ag_32 (rds_row 2 rfl rfl) rfl (by omega) rfl (rootC_ta _)) ?_; exact zk.h) : p := h ⟨k⟩
theorem Z3f {p q : Prop} (k : q) (h : Hid q → p := by intro zk; refine Z1y ?_; refine Z2k ?_; exact zk.h) : p := h ⟨k⟩
theorem Z3g {p q : Prop} (k : q) (h : Hid q → p := by intro zk; refine Zd ?_; refine cd_block ?_; exact zk.h) : p := h ⟨k⟩
theorem Z3h {p q : Prop} (k : q) (h : Hid q → p := by intro zk; refine Z9 ?_; refine Zv ?_; exact zk.h) : p := h ⟨k⟩
theorem Z3i {p q : Prop} (k : q) (h : Hid q → p := by intro zk; refine Zp ?_; refine Z60 ?_; exact zk.h) : p := h ⟨k⟩
theorem Z3j {p q : Prop} (k : q) (h : Hid q → p := by intro zk; refine Zj ?_; refine oq (op_field fld_165_1 rfl) ?_; exact zk.h) : p := h ⟨k⟩
theorem Zct {p q : Prop} (k : q) (h : Hid q → p := by intro zk; refine e_q 4 rfl (wn_none rfl) (op_field fld_36_0 rfl) ?_; refine e_q 5 rfl (wn_none rfl) (op_ld 1 sc_3 rfl rfl (voteC_a0 _)) ?_; exact zk.h) : p := h ⟨k⟩
theorem Zeh {a0 : Sort _} {q : ∀ (zz0 : a0), Prop} {p : Prop} (k : ∀ (zz0 : a0), q zz0) (h : Hid (∀ (zz0 : a0), q zz0) → p := by intro zk; refine rg_i (wn_none rfl) (os_alloc (cs := (rootC Root.zero).toArray) zB_32 (by kernel_rfl)) rfl rfl ?_; rintro _ _ ⟨zz0, rfl, rfl⟩; refine ⟨[_], rfl, ?_⟩; refine rg_iN (wn_none rfl) (os_storera _ ag_32 rfl rfl (Free.zero _)) rfl ?_; rintro _ _ ⟨rfl, rfl⟩; refine ⟨[_], rfl, ?_⟩; exact zk.h zz0) : p := h ⟨k⟩
theorem Zbt {p q : Prop} (k : q) (h : Hid q → p := by intro zk; refine oq (op_field fld_49_3 rfl) ?_; refine oq (op_ld 1 sc_3 rfl rfl (vActC_a3 _)) ?_; exact zk.h) : p := h ⟨k⟩
theorem Zbu {p q : Prop} (k : q) (h : Hid q → p := by intro zk; refine oq (op_field fld_66_0 rfl) ?_; refine oq (op_ld 0 sc_3 rfl rfl (valC_a0 _)) ?_; exact zk.h) : p := h ⟨k⟩
theorem Z3p {p q : Prop} (k : q) (h : Hid q → p := by intro zk; refine Z62 ?_; refine Z66 ?_; exact zk.h) : p := h ⟨k⟩
theorem Z3q {p q : Prop} (k : q) (h : Hid q → p := by intro zk; refine Z31 ?_; refine Zz ?_; exact zk.h) : p := h ⟨k⟩
theorem Zcu {p q : Prop} (k : q) (h : Hid q → p := by intro zk; refine e_q 2 rfl (wn_none rfl) (op_field fld_72_3 rfl) ?_; refine e_q 3 rfl (wn_none rfl) (op_ld 2 sc_42 rfl rfl rfl) ?_; exact zk.h) : p := h ⟨k⟩
theorem Z76 {p q : Prop} (k : q) (h : Hid q → p := by intro zk; refine Z2f ?_; refine Z2f ?_; exact zk.h) : p := h ⟨k⟩
theorem Zcv {p q : Prop} (k : q) (h : Hid q → p := by intro zk; refine e_q 4 rfl (wn_none rfl) (op_move (v := .pointer _) rfl) ?_; refine e_q 5 rfl (wn_none rfl) (op_nilck rfl) ?_; exact zk.h) : p := h ⟨k⟩
theorem Z41 {p q : Prop} (k : q) (h : Hid q → p := by intro zk; refine Z2b ?_; refine Z1h ?_; exact zk.h) : p := h ⟨k⟩
theorem Z42 {p q : Prop} (k : q) (h : Hid q → p := by intro zk; refine Zc ?_; refine Z1j ?_; exact zk.h) : p := h ⟨k⟩
theorem Z43 {p q : Prop} (k : q) (h : Hid q → p := by intro zk; refine Z69 ?_; refine Z0 ?_; exact zk.h) : p := h ⟨k⟩
theorem Z44 {p q : Prop} (k : q) (h : Hid q → p := by intro zk; refine Zak ?_; refine rg_q (wn_none rfl) (op_lda (L := rootC _) 3 ag_32 rfl rfl (voteC_af2 _) (by simp [voteC_len])) rfl rfl ?_; exact zk.h) : p := h ⟨k⟩
theorem Zei {p q : Prop} (k : q) (h : Hid q → p := by intro zk; refine Z6d ?_; refine oq (op_lda (L := rootC _) 2 ag_32 rfl rfl (voteC_af2 _) (by simp [voteC_len])) ?_; exact zk.h) : p := h ⟨k⟩
theorem Zej {p q : Prop} (k : q) (h : Hid q → p := by intro zk; refine Z4 ?_; refine oq (op_neg rfl) ?_; exact zk.h) : p := h ⟨k⟩
theorem Zek {p q : Prop} (k : q) (h : Hid q → p := by intro zk; refine ol_nil ?_; refine px_then ?_; exact zk.h) : p := h ⟨k⟩
theorem Z45 {p q : Prop} (k : q) (h : Hid q → p := by intro zk; refine Za ?_; refine Z35 ?_; exact zk.h) : p := h ⟨k⟩
theorem Z4j {p q : Prop} (k : q) (h : Hid q → p := by intro zk; refine Z2t ?_; refine Z2t ?_; exact zk.h) : p := h ⟨k⟩
theorem Zel {p q : Prop} (k : q) (h : Hid q → p := by intro zk; refine rg_q (wn_none rfl) (op_ld 5 sc_3 rfl rfl (voteC_a0 _)) rfl rfl ?_; refine rg_q (wn_none rfl) (op_index _ sB_118 rfl rfl (Int.toNat_of_nonneg (by omega)).symm (rds_row 6 rfl rfl) rfl (by omega)) rfl rfl ?_; exact zk.h) : p := h ⟨k⟩
theorem Zem {p q : Prop} (k : q) (h : Hid q → p := by intro zk; refine rg_q (wn_none rfl) (op_ld 6 sc_3 rfl rfl (voteC_a0 _)) rfl rfl ?_; refine rg_q (wn_none rfl) (op_index _ sB_118 rfl rfl (Int.toNat_of_nonneg (by omega)).symm (rds_row 7 rfl rfl) rfl (by omega)) rfl rfl ?_; exact zk.h) : p := h ⟨k⟩
theorem Z3k {a0 : Sort _} {q : ∀ (zz0 : a0), Prop} {p : Prop} (k : ∀ (zz0 : a0), q zz0) (h : Hid (∀ (zz0 : a0), q zz0) → p := by intro zk; refine Zw ?_; intro zz0; refine Z5o ?_; exact zk.h zz0) : p := h ⟨k⟩
theorem Zen {a0 : Sort _} {q : ∀ (zz0 : a0), Prop} {p : Prop} (k : ∀ (zz0 : a0), q zz0) (h : Hid (∀ (zz0 : a0), q zz0) → p := by intro zk; refine oi (os_alloc (cs := (firstC First.zero).toArray) zB_142 (by kernel_rfl)) ?_; rintro _ _ ⟨zz0, rfl, rfl⟩; refine oN (os_storew (firstC _) ag_142 rfl rfl (firstC_len _) (firstC_one _) (by simp [firstC_len]) (Free.zero _)) ?_; rintro _ _ ⟨rfl, rfl⟩; exact zk.h zz0) : p := h ⟨k⟩
theorem Zbv {p q : Prop} (k : q) (h : Hid q → p := by intro zk; refine rg_q (wn_none rfl) (op_field fld_66_1 rfl) rfl rfl ?_; refine rg_q (wn_none rfl) (op_ld 0 sc_9 rfl rfl (valC_a1 _)) rfl rfl ?_; exact zk.h) : p := h ⟨k⟩
theorem Zbw {p q : Prop} (k : q) (h : Hid q → p := by intro zk; refine Z6 ?_; refine rg_q (wn_none rfl) (op_field fld_72_1 rfl) rfl rfl ?_; exact zk.h) : p := h ⟨k⟩
theorem Zbx {p q : Prop} (k : q) (h : Hid q → p := by intro zk; refine Z6 ?_; refine rg_q (wn_none rfl) (op_field fld_72_2 rfl) rfl rfl ?_; exact zk.h) : p := h ⟨k⟩
theorem Zby {p q : Prop} (k : q) (h : Hid q → p := by intro zk; refine Z6 ?_; refine rg_q (wn_none rfl) (op_field fld_60_2 rfl) rfl rfl ?_; exact zk.h) : p := h ⟨k⟩
theorem Z6p {p q : Prop} (k : q) (h : Hid q → p := by intro zk; refine cd_pull4 ?_; refine cd_pull5 ?_; exact zk.h) : p := h ⟨k⟩
theorem Zg1 {p q : Prop} (k : q) (h : Hid q → p := by intro zk; refine Z3a ?_; refine oq (op_extract (v := .agg _) rfl rfl) ?_; exact zk.h) : p := h ⟨k⟩
theorem Z4k {p q : Prop} (k : q) (h : Hid q → p := by intro zk; refine Zg1 ?_; refine Z5e ?_; exact zk.h) : p := h ⟨k⟩
theorem Z4l {p q : Prop} (k : q) (h : Hid q → p := by intro zk; refine Z5p ?_; refine Zd ?_; exact zk.h) : p := h ⟨k⟩
theorem Z4m {p q : Prop} (k : q) (h : Hid q → p := by intro zk; refine Z5i ?_; refine Z3y ?_; exact zk.h) : p := h ⟨k⟩
theorem Z4n {p q : Prop} (k : q) (h : Hid q → p := by intro zk; refine Z0 ?_; refine Zv ?_; exact zk.h) : p := h ⟨k⟩
theorem Z4o {p q : Prop} (k : q) (h : Hid q → p := by intro zk; refine Z31 ?_; refine rg_nil_then1 ?_; exact zk.h) : p := h ⟨k⟩
theorem Z4p {p q : Prop} (k : q) (h : Hid q → p := by intro zk; refine oq (op_ne rfl rfl) ?_; refine Z0 ?_; exact zk.h) : p := h ⟨k⟩
theorem Z4q {p q : Prop} (k : q) (h : Hid q → p := by intro zk; refine Z0 ?_; refine Z3e ?_; exact zk.h) : p := h ⟨k⟩
theorem Zg2 {p q : Prop} (k : q) (h : Hid q → p := by intro zk; refine Zee ?_; refine Z6g ?_; exact zk.h) : p := h ⟨k⟩
theorem Z4r {p q : Prop} (k : q) (h : Hid q → p := by intro zk; refine Zg2 ?_; refine Z63 ?_; exact zk.h) : p := h ⟨k⟩
theorem Z4s {p q : Prop} (k : q) (h : Hid q → p := by intro zk; refine Z4 ?_; refine oq (op_add32 _ _ rfl rfl) ?_; exact zk.h) : p := h ⟨k⟩
theorem Zg3 {p q : Prop} (k : q) (h : Hid q → p := by intro zk; refine Zee ?_; refine Z6j ?_; exact zk.h) : p := h ⟨k⟩
theorem Z4t {p q : Prop} (k : q) (h : Hid q → p := by intro zk; refine Zg3 ?_; refine Z64 ?_; exact zk.h) : p := h ⟨k⟩
theorem Zg4 {p q : Prop} (k : q) (h : Hid q → p := by intro zk; refine Z6o ?_; refine Zei ?_; exact zk.h) : p := h ⟨k⟩
theorem Zg5 {p q : Prop} (k : q) (h : Hid q → p := by intro zk; refine Zg4 ?_; refine Zej ?_; exact zk.h) : p := h ⟨k⟩
theorem Zg6 {p q : Prop} (k : q) (h : Hid q → p := by intro zk; refine Zg5 ?_; refine Z76 ?_; exact zk.h) : p := h ⟨k⟩
theorem Z4u {p q : Prop} (k : q) (h : Hid q → p := by intro zk; refine Zg6 ?_; refine Zu ?_; exact zk.h) : p := h ⟨k⟩
theorem Zg7 {p q : Prop} (k : q) (h : Hid q → p := by intro zk; refine oi (os_call cb_34 rfl (fun w s => put_calls _ _ _ _ _ _ _ _ _ _ _ _ _ _ _ _ _ _ _ _ _ _  s (Nat.le_of_eq (ownE_len _ _ _)) (ownE_ok hsk hw))) ?_; rintro _ _ ⟨rfl, rfl⟩; refine Zek ?_; exact zk.h) : p := h ⟨k⟩
theorem Z4v {p q : Prop} (k : q) (h : Hid q → p := by intro zk; refine Zg7 ?_; refine Z5q ?_; exact zk.h) : p := h ⟨k⟩
theorem Zeo {p q : Prop} (k : q) (h : Hid q → p := by intro zk; refine oq (op_conv64m (39 - i) Tryz.underlying149 (by rw [Tryz.underlying3]; rfl) rfl (by omega) (by omega)) ?_; refine oq (op_shl_nat (A := 1) (m := 39 - i) rfl rfl (by omega) (pow39 i)) ?_; exact zk.h) : p := h ⟨k⟩
theorem Zep {p q : Prop} (k : q) (h : Hid q → p := by intro zk; refine rg_q (wn_none rfl) (op_len_string Tryz.underlying9 rfl) rfl rfl ?_; refine rg_q (wn_none rfl) (op_conv64 Tryz.underlying138 (by rw [Tryz.underlying3]; rfl) rfl (by omega)) rfl rfl ?_; exact zk.h) : p := h ⟨k⟩
theorem Z65 {p q : Prop} (k : q) (h : Hid q → p := by intro zk; refine cd_pull6 ?_; refine Z7 ?_; exact zk.h) : p := h ⟨k⟩
theorem Z9v {p q : Prop} (k : q) (h : Hid q → p := by intro zk; refine Z96 ?_; refine oq (op_ld 1 sc_52 rfl rfl rfl) ?_; exact zk.h) : p := h ⟨k⟩
theorem Zeq {p q : Prop} (k : q) (h : Hid q → p := by intro zk; refine rg_q (wn_none rfl) (op_field fld_24_3 rfl) rfl rfl ?_; refine rg_q (wn_none rfl) (op_ld 0 sc_3 rfl rfl (show (cfgC _).toArray[3]? = some (.int .i64 n3) from cfgC_a3 _)) rfl rfl ?_; exact zk.h) : p := h ⟨k⟩
theorem Zer {p q : Prop} (k : q) (h : Hid q → p := by intro zk; refine et_skip 12 (by kernel_rfl) rfl (by kernel_rfl) (wn_some rfl rfl rfl rfl rfl) rfl ?_; refine et_skip 13 (by kernel_rfl) rfl (by kernel_rfl) (wn_some rfl rfl rfl rfl rfl) rfl ?_; exact zk.h) : p := h ⟨k⟩
theorem Zes {p q : Prop} (k : q) (h : Hid q → p := by intro zk; refine et_skip 15 (by kernel_rfl) rfl (by kernel_rfl) (wn_some rfl rfl rfl rfl rfl) rfl ?_; refine et_skip 16 (by kernel_rfl) rfl (by kernel_rfl) (wn_some rfl rfl rfl rfl rfl) rfl ?_; exact zk.h) : p := h ⟨k⟩
theorem Zet {p q : Prop} (k : q) (h : Hid q → p := by intro zk; refine et_skip 18 (by kernel_rfl) rfl (by kernel_rfl) (wn_some rfl rfl rfl rfl rfl) rfl ?_; refine et_skip 19 (by kernel_rfl) rfl (by kernel_rfl) (wn_some rfl rfl rfl rfl rfl) rfl ?_; exact zk.h) : p := h ⟨k⟩
theorem Zeu {p q : Prop} (k : q) (h : Hid q → p := by intro zk; refine et_skip 12 (by kernel_rfl) rfl (by kernel_rfl) (wn_some rfl rfl rfl hb4 rfl) rfl ?_; refine et_skip 13 (by kernel_rfl) rfl (by kernel_rfl) (wn_some rfl rfl rfl hb4 rfl) rfl ?_; exact zk.h) : p := h ⟨k⟩
theorem Zev {p q : Prop} (k : q) (h : Hid q → p := by intro zk; refine et_skip 15 (by kernel_rfl) rfl (by kernel_rfl) (wn_some rfl rfl rfl hb4 rfl) rfl ?_; refine et_skip 16 (by kernel_rfl) rfl (by kernel_rfl) (wn_some rfl rfl rfl hb4 rfl) rfl ?_; exact zk.h) : p := h ⟨k⟩
theorem Zew {p q : Prop} (k : q) (h : Hid q → p := by intro zk; refine et_skip 18 (by kernel_rfl) rfl (by kernel_rfl) (wn_some rfl rfl rfl hb4 rfl) rfl ?_; refine et_skip 19 (by kernel_rfl) rfl (by kernel_rfl) (wn_some rfl rfl rfl hb4 rfl) rfl ?_; exact zk.h) : p := h ⟨k⟩
theorem Zex {p q : Prop} (k : q) (h : Hid q → p := by intro zk; refine et_skip 20 (by kernel_rfl) rfl (by kernel_rfl) (wn_some rfl rfl rfl hb5 rfl) rfl ?_; refine et_skip 21 (by kernel_rfl) rfl (by kernel_rfl) (wn_some rfl rfl rfl hb5 rfl) rfl ?_; exact zk.h) : p := h ⟨k⟩
theorem Zey {p q : Prop} (k : q) (h : Hid q → p := by intro zk; refine et_skip 22 (by kernel_rfl) rfl (by kernel_rfl) (wn_some rfl rfl rfl hb5 rfl) rfl ?_; refine et_skip 23 (by kernel_rfl) rfl (by kernel_rfl) (wn_some rfl rfl rfl hb5 rfl) rfl ?_; exact zk.h) : p := h ⟨k⟩
theorem Zez {p q : Prop} (k : q) (h : Hid q → p := by intro zk; refine et_skip 24 (by kernel_rfl) rfl (by kernel_rfl) (wn_some rfl rfl rfl hb5 rfl) rfl ?_; refine et_skip 25 (by kernel_rfl) rfl (by kernel_rfl) (wn_some rfl rfl rfl hb5 rfl) rfl ?_; exact zk.h) : p := h ⟨k⟩
theorem Zf0 {p q : Prop} (k : q) (h : Hid q → p := by intro zk; refine et_skip 26 (by kernel_rfl) rfl (by kernel_rfl) (wn_some rfl rfl rfl hb5 rfl) rfl ?_; refine et_skip 27 (by kernel_rfl) rfl (by kernel_rfl) (wn_some rfl rfl rfl hb5 rfl) rfl ?_; exact zk.h) : p := h ⟨k⟩
theorem Zf1 {p q : Prop} (k : q) (h : Hid q → p := by intro zk; refine et_skip 28 (by kernel_rfl) rfl (by kernel_rfl) (wn_some rfl rfl rfl hb5 rfl) rfl ?_; refine et_skip 29 (by kernel_rfl) rfl (by kernel_rfl) (wn_some rfl rfl rfl hb5 rfl) rfl ?_; exact zk.h) : p := h ⟨k⟩
theorem Zf2 {p q : Prop} (k : q) (h : Hid q → p := by intro zk; refine et_skip 30 (by kernel_rfl) rfl (by kernel_rfl) (wn_some rfl rfl rfl hb5 rfl) rfl ?_; refine et_skip 31 (by kernel_rfl) rfl (by kernel_rfl) (wn_some rfl rfl rfl hb5 rfl) rfl ?_; exact zk.h) : p := h ⟨k⟩
theorem Zf3 {p q : Prop} (k : q) (h : Hid q → p := by intro zk; refine et_skip 32 (by kernel_rfl) rfl (by kernel_rfl) (wn_some rfl rfl rfl hb5 rfl) rfl ?_; refine et_skip 33 (by kernel_rfl) rfl (by kernel_rfl) (wn_some rfl rfl rfl hb5 rfl) rfl ?_; exact zk.h) : p := h ⟨k⟩
theorem Zf4 {p q : Prop} (k : q) (h : Hid q → p := by intro zk; refine et_skip 34 (by kernel_rfl) rfl (by kernel_rfl) (wn_some rfl rfl rfl hb5 rfl) rfl ?_; refine et_skip 35 (by kernel_rfl) rfl (by kernel_rfl) (wn_some rfl rfl rfl hb5 rfl) rfl ?_; exact zk.h) : p := h ⟨k⟩
theorem Zf5 {p q : Prop} (k : q) (h : Hid q → p := by intro zk; refine et_skip 36 (by kernel_rfl) rfl (by kernel_rfl) (wn_some rfl rfl rfl hb5 rfl) rfl ?_; refine et_skip 37 (by kernel_rfl) rfl (by kernel_rfl) (wn_some rfl rfl rfl hb5 rfl) rfl ?_; exact zk.h) : p := h ⟨k⟩
theorem Zf6 {p q : Prop} (k : q) (h : Hid q → p := by intro zk; refine et_skip 38 (by kernel_rfl) rfl (by kernel_rfl) (wn_some rfl rfl rfl hb5 rfl) rfl ?_; refine et_skip 39 (by kernel_rfl) rfl (by kernel_rfl) (wn_some rfl rfl rfl hb5 rfl) rfl ?_; exact zk.h) : p := h ⟨k⟩
theorem Z54 {p q : Prop} (k : q) (h : Hid q → p := by intro zk; refine Z1 ?_; refine Z1f ?_; exact zk.h) : p := h ⟨k⟩
theorem Z55 {p q : Prop} (k : q) (h : Hid q → p := by intro zk; refine Z3z ?_; refine Z4 ?_; exact zk.h) : p := h ⟨k⟩
theorem Z56 {p q : Prop} (k : q) (h : Hid q → p := by intro zk; refine Z1 ?_; refine Zd ?_; exact zk.h) : p := h ⟨k⟩
theorem Zg8 {p q : Prop} (k : q) (h : Hid q → p := by intro zk; refine ei_i rfl rfl (wn_none rfl) (os_call cb_105 rfl (fun w s => turn_calls (k := 18) _  s (by decide) (by decide))) rfl ?_; rintro _ _ ⟨rfl, rfl⟩; refine ⟨[_], rfl, ?_⟩; refine e_q 9 rfl (wn_none rfl) (op_xor32 _ _ rfl rfl) ?_; exact zk.h) : p := h ⟨k⟩
theorem Z57 {p q : Prop} (k : q) (h : Hid q → p := by intro zk; refine Zg8 ?_; refine e_q 12 rfl (wn_none rfl) (op_xor32 _ _ rfl rfl) ?_; exact zk.h) : p := h ⟨k⟩
theorem Zg9 {p q : Prop} (k : q) (h : Hid q → p := by intro zk; refine ei_i rfl rfl (wn_none rfl) (os_call cb_98 rfl (fun w s => right_calls (k := 18) _  s (by decide) (by decide))) rfl ?_; rintro _ _ ⟨rfl, rfl⟩; refine ⟨[_], rfl, ?_⟩; refine e_q 14 rfl (wn_none rfl) (op_xor32 _ _ rfl rfl) ?_; exact zk.h) : p := h ⟨k⟩
theorem Z58 {p q : Prop} (k : q) (h : Hid q → p := by intro zk; refine Zg9 ?_; refine e_q 17 rfl (wn_none rfl) (op_xor32 _ _ rfl rfl) ?_; exact zk.h) : p := h ⟨k⟩
theorem Zcw {p q : Prop} (k : q) (h : Hid q → p := by intro zk; refine oq (op_index j sB_54 rfl rfl rfl (rds_row 0 rfl rfl) rfl (by rw [castL_len]; omega)) ?_; refine oq (op_ldw sc_3 (rds_row 0 rfl rfl) rfl (by rw [castL_len]; omega) rfl) ?_; exact zk.h) : p := h ⟨k⟩
theorem Zf7 {p q : Prop} (k : q) (h : Hid q → p := by intro zk; refine et_skip 3 (by kernel_rfl) rfl (by kernel_rfl) (wn_some rfl rfl rfl hb3 rfl) rfl ?_; refine et_skip 4 (by kernel_rfl) rfl (by kernel_rfl) (wn_some rfl rfl rfl hb3 rfl) rfl ?_; exact zk.h) : p := h ⟨k⟩
theorem Zf8 {p q : Prop} (k : q) (h : Hid q → p := by intro zk; refine et_skip 6 (by kernel_rfl) rfl (by kernel_rfl) (wn_some rfl rfl rfl hb3 rfl) rfl ?_; refine et_skip 7 (by kernel_rfl) rfl (by kernel_rfl) (wn_some rfl rfl rfl hb3 rfl) rfl ?_; exact zk.h) : p := h ⟨k⟩
theorem Zf9 {p q : Prop} (k : q) (h : Hid q → p := by intro zk; refine e_q 16 rfl (wn_none rfl) (op_lda (L := rootC _) 0 ag_32 rfl rfl (rootC_take' _) (by simp [rootC_len])) ?_; refine e_q 17 rfl (wn_none rfl) (op_move (v := .pointer _) rfl) ?_; exact zk.h) : p := h ⟨k⟩
theorem Zfa {p : Prop} (h : p := by refine px_loop2 ((i0 : Int) - 1) (by omega) (by (try dsimp only); omega) ⟨rfl, trivial⟩ ?_ (fun _ s => (by (try dsimp only); rw [← eL]; exact s)); exact Z2) : p := h
theorem Zfb {p : Prop} (h : p := by refine px_loop2 ((i0 : Int) - 1) (by omega) (by (try dsimp only); omega) ⟨rfl, trivial⟩ ?_ (fun _ s => (by (try dsimp only); rw [← eS]; exact s)); exact Z2) : p := h
theorem Zfc {p q : Prop} (k : q) (h : Hid q → p := by intro zk; refine oq (op_index _ sB_102 rfl rfl rfl (rds_row 2 rfl rfl) rfl (by omega)) ?_; refine oq (op_ldaw (L := firstC _) ag_142 (rds_row 2 rfl rfl) rfl (by omega) rfl (firstC_ta _)) ?_; exact zk.h) : p := h ⟨k⟩
theorem Zbz {p q : Prop} (k : q) (h : Hid q → p := by intro zk; refine Z9r ?_; refine ei_skip rfl (wn_undef rfl rfl rfl rfl) rfl ?_; exact zk.h) : p := h ⟨k⟩
theorem Zcx {p q : Prop} (k : q) (h : Hid q → p := by intro zk; refine Z5 ?_; refine ol_q (wn_some rfl rfl rfl rfl rfl) (op_move (v := .int _ _) rfl) rfl ?_; exact zk.h) : p := h ⟨k⟩
theorem Z77 {p q : Prop} (k : q) (h : Hid q → p := by intro zk; refine cd_pull6 ?_; refine cd_pull7 ?_; exact zk.h) : p := h ⟨k⟩
theorem Z46 {a0 : Sort _} {q : ∀ (zz0 : a0), Prop} {p : Prop} (k : ∀ (zz0 : a0), q zz0) (h : Hid (∀ (zz0 : a0), q zz0) → p := by intro zk; refine Zw ?_; intro zz0; refine Zf ?_; exact zk.h zz0) : p := h ⟨k⟩
theorem Zcy {p : Prop} (h : p := by refine Z10 ?_; exact px_ret1 rfl (v := .int _ _) rfl (fun _ s => s) ⟨rfl, rfl⟩) : p := h
theorem Z9w {p q : Prop} (k : q) (h : Hid q → p := by intro zk; refine Zj ?_; refine oq (op_field fld_56_2 rfl) ?_; exact zk.h) : p := h ⟨k⟩
end Go.SL
