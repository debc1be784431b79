import Derived.KernelRfl
set_option linter.unusedVariables false
namespace Go.SL
structure Hid (p : Prop) : Prop where
  h : p
theorem Z0 {p q : Prop} (k : q) (h : Hid q → p := by intro zk; refine cd_sr ?_; exact zk.h) : p := h ⟨k⟩
theorem Z1w {a0 : Sort _} {q : ∀ (zz0 : a0), Prop} {p : Prop} (k : ∀ (zz0 : a0), q zz0) (h : Hid (∀ (zz0 : a0), q zz0) → p := by intro zk; refine oi (os_alloc (cs := (rootC Root.zero).toArray) zB_24 (by kernel_rfl)) ?_; rintro _ _ ⟨zz0, rfl, rfl⟩; exact zk.h zz0) : p := h ⟨k⟩
theorem Z1 {p q : Prop} (k : q) (h : Hid q → p := by intro zk; refine ol_nil_then ?_; exact zk.h) : p := h ⟨k⟩
theorem Z4 {p q : Prop} (k : q) (h : Hid q → p := by intro zk; refine oq (op_move (v := .int _ _) rfl) ?_; exact zk.h) : p := h ⟨k⟩
theorem Z2k {p q : Prop} (k : q) (h : Hid q → p := by intro zk; refine oq (op_lda (L := rootC _) 0 ag_24 rfl rfl (rootC_take' _) (by simp [rootC_len])) ?_; exact zk.h) : p := h ⟨k⟩
theorem Z9 {p q : Prop} (k : q) (h : Hid q → p := by intro zk; refine ol_pull1 ?_; exact zk.h) : p := h ⟨k⟩
theorem Z4h {p q : Prop} (k : q) (h : Hid q → p := by intro zk; refine oN (os_storera _ ag_24 rfl rfl (Free.zero _)) ?_; rintro _ _ ⟨rfl, rfl⟩; exact zk.h) : p := h ⟨k⟩
theorem Z2f {a0 : Sort _} {q : ∀ (zz0 : a0), Prop} {p : Prop} (k : ∀ (zz0 : a0), q zz0) (h : Hid (∀ (zz0 : a0), q zz0) → p := by intro zk; refine oi (os_boxa rfl) ?_; rintro _ _ ⟨zz0, rfl, rfl⟩; exact zk.h zz0) : p := h ⟨k⟩
theorem Zc {p q : Prop} (k : q) (h : Hid q → p := by intro zk; refine oq (op_assign (v := .pointer _) rfl) ?_; exact zk.h) : p := h ⟨k⟩
theorem Zq {p q : Prop} (k : q) (h : Hid q → p := by intro zk; refine oq (op_assign (v := .int _ _) rfl) ?_; exact zk.h) : p := h ⟨k⟩
theorem Z7 {p q : Prop} (k : q) (h : Hid q → p := by intro zk; refine cd_seq ?_; exact zk.h) : p := h ⟨k⟩
theorem Z4y {p q : Prop} (k : q) (h : Hid q → p := by intro zk; refine oq (op_lt rfl rfl) ?_; exact zk.h) : p := h ⟨k⟩
theorem Z5 {p q : Prop} (k : q) (h : Hid q → p := by intro zk; refine oq (op_move (v := .bool _) rfl) ?_; exact zk.h) : p := h ⟨k⟩
theorem Z8e {p q : Prop} (k : q) (h : Hid q → p := by intro zk; refine ol_skip (wn_some rfl rfl rfl hb1 rfl) rfl ?_; exact zk.h) : p := h ⟨k⟩
theorem Z20 {p q : Prop} (k : q) (h : Hid q → p := by intro zk; refine oq (op_pick_t (v := .bool _) rfl hb1 rfl) ?_; exact zk.h) : p := h ⟨k⟩
theorem Z6s {p q : Prop} (k : q) (h : Hid q → p := by intro zk; refine ol_skip (wn_some rfl rfl rfl rfl rfl) rfl ?_; exact zk.h) : p := h ⟨k⟩
theorem Z6b {p q : Prop} (k : q) (h : Hid q → p := by intro zk; refine oq (op_pick_t (v := .bool _) rfl rfl rfl) ?_; exact zk.h) : p := h ⟨k⟩
theorem Z5e {p q : Prop} (k : q) (h : Hid q → p := by intro zk; refine cd_cond_t rfl rfl ?_; exact zk.h) : p := h ⟨k⟩
theorem Z13 {p q : Prop} (k : q) (h : Hid q → p := by intro zk; refine px_thenR ?_; exact zk.h) : p := h ⟨k⟩
theorem Z9c {p : Prop} (h : p := by exact px_ret2 rfl (v1 := .pointer _) (v2 := .int _ _) rfl rfl (fun _ s => (s.del 0)) (.inl ⟨rfl, rfl, by omega⟩)) : p := h
theorem Z2q {p q : Prop} (k : q) (h : Hid q → p := by intro zk; refine ol_q (wn_some rfl rfl rfl hb1 rfl) (op_move (v := .int _ _) rfl) rfl ?_; exact zk.h) : p := h ⟨k⟩
theorem Z8f {p q : Prop} (k : q) (h : Hid q → p := by intro zk; refine ol_q (wn_some rfl rfl rfl hb1 rfl) (op_gt rfl rfl) rfl ?_; exact zk.h) : p := h ⟨k⟩
theorem Z21 {p q : Prop} (k : q) (h : Hid q → p := by intro zk; refine oq (op_pick_f (v := .bool _) rfl hb1 rfl) ?_; exact zk.h) : p := h ⟨k⟩
theorem Z5s {p q : Prop} (k : q) (h : Hid q → p := by intro zk; refine ol_skip (wn_some rfl rfl rfl hb2 rfl) rfl ?_; exact zk.h) : p := h ⟨k⟩
theorem Z37 {p q : Prop} (k : q) (h : Hid q → p := by intro zk; refine oq (op_pick_t (v := .bool _) rfl hb2 rfl) ?_; exact zk.h) : p := h ⟨k⟩
theorem Z4i {p q : Prop} (k : q) (h : Hid q → p := by intro zk; refine ol_q (wn_some rfl rfl rfl hb2 rfl) (op_move (v := .int _ _) rfl) rfl ?_; exact zk.h) : p := h ⟨k⟩
theorem Z8g {p q : Prop} (k : q) (h : Hid q → p := by intro zk; refine ol_q (wn_some rfl rfl rfl hb2 rfl) (op_lt rfl rfl) rfl ?_; exact zk.h) : p := h ⟨k⟩
theorem Z2v {p q : Prop} (k : q) (h : Hid q → p := by intro zk; refine oq (op_pick_f (v := .bool _) rfl hb2 rfl) ?_; exact zk.h) : p := h ⟨k⟩
theorem Z9d {p q : Prop} (k : q) (h : Hid q → p := by intro zk; refine ol_skip (wn_some rfl rfl rfl hb3 rfl) rfl ?_; exact zk.h) : p := h ⟨k⟩
theorem Z4j {p q : Prop} (k : q) (h : Hid q → p := by intro zk; refine oq (op_pick_t (v := .bool _) rfl hb3 rfl) ?_; exact zk.h) : p := h ⟨k⟩
theorem Z5f {p q : Prop} (k : q) (h : Hid q → p := by intro zk; refine ol_q (wn_some rfl rfl rfl hb3 rfl) (op_move (v := .int _ _) rfl) rfl ?_; exact zk.h) : p := h ⟨k⟩
theorem Z5t {p q : Prop} (k : q) (h : Hid q → p := by intro zk; refine ol_q (wn_some rfl rfl rfl hb3 rfl) (op_gt rfl rfl) rfl ?_; exact zk.h) : p := h ⟨k⟩
theorem Z5g {p q : Prop} (k : q) (h : Hid q → p := by intro zk; refine oq (op_pick_f (v := .bool _) rfl hb3 rfl) ?_; exact zk.h) : p := h ⟨k⟩
theorem Z6t {p q : Prop} (k : q) (h : Hid q → p := by intro zk; refine e_q 1 rfl (wn_none rfl) (op_move (v := .int _ _) rfl) ?_; exact zk.h) : p := h ⟨k⟩
theorem Z2g {p q : Prop} (k : q) (h : Hid q → p := by intro zk; refine et_1 (i := 4) (by kernel_rfl) ?_; exact zk.h) : p := h ⟨k⟩
theorem Z14 {p q : Prop} (k : q) (h : Hid q → p := by intro zk; refine et_1 (i := 6) (by kernel_rfl) ?_; exact zk.h) : p := h ⟨k⟩
theorem Zan {p q : Prop} (k : q) (h : Hid q → p := by intro zk; refine e_q 9 rfl (wn_none rfl) (op_build (L := [_, _, _]) (vs := [(0, .slice _ _ _), (1, .map _), (2, .int _ _)]) bB_114 rfl ⟨⟨rfl, rfl⟩, ⟨rfl, rfl⟩, ⟨rfl, rfl⟩, trivial⟩ rfl) ?_; exact zk.h) : p := h ⟨k⟩
theorem Z1f {p q : Prop} (k : q) (h : Hid q → p := by intro zk; refine et_1 (i := 10) (by kernel_rfl) ?_; exact zk.h) : p := h ⟨k⟩
theorem Z16 {p q : Prop} (k : q) (h : Hid q → p := by intro zk; refine et_nil_then (by kernel_rfl) ?_; exact zk.h) : p := h ⟨k⟩
theorem Zbg {p : Prop} (h : p := by exact px_ret2 rfl (v1 := .pointer _) (v2 := .int _ _) (l' := TreeObj _ (TreeS.new r slot most) :: l) rfl rfl (fun _ s => Sat.treeMk (t := TreeS.new r slot most) (TreeS.WF.new (by omega) (by omega) (by omega) (by omega)) rfl ((((s.del 3).pull 1).pull 2).pull 2)) (.inr ⟨_, rfl, by omega, rfl⟩)) : p := h
theorem Z1p {p q : Prop} (k : q) (h : Hid q → p := by intro zk; refine oq (op_move (v := .pointer _) rfl) ?_; exact zk.h) : p := h ⟨k⟩
theorem Z6c {p q : Prop} (k : q) (h : Hid q → p := by intro zk; refine oq (op_eqnil Try.underlying26 rfl rfl) ?_; exact zk.h) : p := h ⟨k⟩
theorem Z6u {p q : Prop} (k : q) (h : Hid q → p := by intro zk; refine cd_draw (M := []) mx [] (by kernel_rfl) ?_; exact zk.h) : p := h ⟨k⟩
theorem Zd {p q : Prop} (k : q) (h : Hid q → p := by intro zk; refine rg_q (wn_none rfl) (op_move (v := .pointer _) rfl) rfl rfl ?_; exact zk.h) : p := h ⟨k⟩
theorem Z9e {p q : Prop} (k : q) (h : Hid q → p := by intro zk; refine rg_q (wn_none rfl) (op_nilck rfl) rfl rfl ?_; exact zk.h) : p := h ⟨k⟩
theorem Z9f {p q : Prop} (k : q) (h : Hid q → p := by intro zk; refine rg_q (wn_none rfl) (op_field fld_114_1 rfl) rfl rfl ?_; exact zk.h) : p := h ⟨k⟩
theorem Z17 {p q : Prop} (k : q) (h : Hid q → p := by intro zk; refine rg_q (wn_none rfl) (op_lda (L := rootC _) 0 ag_24 rfl rfl (rootC_take' _) (by simp [rootC_len])) rfl rfl ?_; exact zk.h) : p := h ⟨k⟩
theorem Z4z {p q : Prop} (k : q) (h : Hid q → p := by intro zk; refine rg_q (wn_none rfl) (op_move (v := .tuple _) rfl) rfl rfl ?_; exact zk.h) : p := h ⟨k⟩
theorem Z8h {p q : Prop} (k : q) (h : Hid q → p := by intro zk; refine rg_q (wn_none rfl) (op_extract (v := .int _ _) rfl rfl) rfl rfl ?_; exact zk.h) : p := h ⟨k⟩
theorem Z6d {p q : Prop} (k : q) (h : Hid q → p := by intro zk; refine rg_q (wn_none rfl) (op_extract (v := .bool _) rfl rfl) rfl rfl ?_; exact zk.h) : p := h ⟨k⟩
theorem Z2w {p q : Prop} (k : q) (h : Hid q → p := by intro zk; refine rg_q (wn_none rfl) (op_assign (v := .int _ _) rfl) rfl rfl ?_; exact zk.h) : p := h ⟨k⟩
theorem Z2x {p q : Prop} (k : q) (h : Hid q → p := by intro zk; refine rg_q (wn_none rfl) (op_assign (v := .bool _) rfl) rfl rfl ?_; exact zk.h) : p := h ⟨k⟩
theorem Z1a {p q : Prop} (k : q) (h : Hid q → p := by intro zk; refine rg_nil_then0 ?_; exact zk.h) : p := h ⟨k⟩
theorem Zbh {p : Prop} (h : p := by exact px_ret1 rfl (v := .int _ _) (l' := TreeObj p t :: l) rfl (fun _ s => Sat.treeMk hw rfl (s.del 0)) ⟨congrArg (Value.int .i64) (by unfold TreeS.place; rw [hlk]), rfl⟩) : p := h
theorem Z3k {a0 : Sort _} {q : ∀ (zz0 : a0), Prop} {p : Prop} (k : ∀ (zz0 : a0), q zz0) (h : Hid (∀ (zz0 : a0), q zz0) → p := by intro zk; refine oi (os_alloc (cs := (nodeC Node.zero).toArray) zB_51 (by kernel_rfl)) ?_; rintro _ _ ⟨zz0, rfl, rfl⟩; exact zk.h zz0) : p := h ⟨k⟩
theorem Z6v {p q : Prop} (k : q) (h : Hid q → p := by intro zk; refine oq (op_pick_f (v := .bool _) rfl rfl rfl) ?_; exact zk.h) : p := h ⟨k⟩
theorem Z9g {p q : Prop} (k : q) (h : Hid q → p := by intro zk; refine oN (os_storew (nodeC _) ag_51 rfl rfl (nodeC_len _) (nodeC_one _) (by simp [nodeC_len]) (Free.zero _)) ?_; rintro _ _ ⟨rfl, rfl⟩; exact zk.h) : p := h ⟨k⟩
theorem Zao {p : Prop} (h : p := by exact px_rv2 rfl (rv_cella 0 ag_51 rfl rfl (nodeC_ta _) (by simp [nodeC_len])) (rv_tmp (v := .bool _) rfl) (fun _ s => Sat.treeMk hw rfl (s.del 0)) ⟨rfl, rfl⟩) : p := h
theorem Z50 {p q : Prop} (k : q) (h : Hid q → p := by intro zk; refine ol_q (wn_some rfl rfl rfl hb1 rfl) (op_move (v := .pointer _) rfl) rfl ?_; exact zk.h) : p := h ⟨k⟩
theorem Z51 {p q : Prop} (k : q) (h : Hid q → p := by intro zk; refine ol_q (wn_some rfl rfl rfl hb1 rfl) (op_nilck rfl) rfl ?_; exact zk.h) : p := h ⟨k⟩
theorem Zr {p q : Prop} (k : q) (h : Hid q → p := by intro zk; refine oq (op_nilck rfl) ?_; exact zk.h) : p := h ⟨k⟩
theorem Z8i {p q : Prop} (k : q) (h : Hid q → p := by intro zk; refine rg_q (wn_none rfl) (op_ld 0 sc_3 rfl rfl rfl) rfl rfl ?_; exact zk.h) : p := h ⟨k⟩
theorem Z6w {p q : Prop} (k : q) (h : Hid q → p := by intro zk; refine rg_q (wn_none rfl) (op_sub rfl rfl (by omega) (by omega)) rfl rfl ?_; exact zk.h) : p := h ⟨k⟩
theorem Zs {p q : Prop} (k : q) (h : Hid q → p := by intro zk; refine ol_pull2 ?_; exact zk.h) : p := h ⟨k⟩
theorem Z9h {p q : Prop} (k : q) (h : Hid q → p := by intro zk; refine oi (os_call cb_31 rfl (fun w s => Place_calls _ _ _  s )) ?_; rintro _ _ ⟨rfl, rfl⟩; exact zk.h) : p := h ⟨k⟩
theorem Z38 {p q : Prop} (k : q) (h : Hid q → p := by intro zk; refine oq (op_move (v := .tuple _) rfl) ?_; exact zk.h) : p := h ⟨k⟩
theorem Z52 {p q : Prop} (k : q) (h : Hid q → p := by intro zk; refine oq (op_extract (v := .bool _) rfl rfl) ?_; exact zk.h) : p := h ⟨k⟩
theorem Z5h {p q : Prop} (k : q) (h : Hid q → p := by intro zk; refine oq (op_ge rfl rfl) ?_; exact zk.h) : p := h ⟨k⟩
theorem Z8j {p : Prop} (h : p := by exact px_ret1 rfl (v := .int _ _) (l' := TreeObj p t :: l) rfl (fun _ s => (((s.del 3).del 2).del 1)) ⟨rfl, rfl⟩) : p := h
theorem Z3e {p q : Prop} (k : q) (h : Hid q → p := by intro zk; refine oq (op_not rfl) ?_; exact zk.h) : p := h ⟨k⟩
theorem Ze {p q : Prop} (k : q) (h : Hid q → p := by intro zk; refine rg_q (wn_none rfl) (op_move (v := .int _ _) rfl) rfl rfl ?_; exact zk.h) : p := h ⟨k⟩
theorem Zl {p q : Prop} (k : q) (h : Hid q → p := by intro zk; refine ol_pull3 ?_; exact zk.h) : p := h ⟨k⟩
theorem Z53 {p q : Prop} (k : q) (h : Hid q → p := by intro zk; refine rg_q (wn_none rfl) (op_lt rfl rfl) rfl rfl ?_; exact zk.h) : p := h ⟨k⟩
theorem Z4k {p q : Prop} (k : q) (h : Hid q → p := by intro zk; refine rg_q (wn_none rfl) (op_move (v := .bool _) rfl) rfl rfl ?_; exact zk.h) : p := h ⟨k⟩
theorem Z9i {p q : Prop} (k : q) (h : Hid q → p := by intro zk; refine rg_skip (wn_some rfl rfl rfl hb1 rfl) rfl ?_; exact zk.h) : p := h ⟨k⟩
theorem Z8k {p q : Prop} (k : q) (h : Hid q → p := by intro zk; refine rg_skip (wn_some rfl rfl rfl hb2 rfl) rfl ?_; exact zk.h) : p := h ⟨k⟩
theorem Z5u {p q : Prop} (k : q) (h : Hid q → p := by intro zk; refine oq (op_field fld_51_0 rfl) ?_; exact zk.h) : p := h ⟨k⟩
theorem Z8l {p q : Prop} (k : q) (h : Hid q → p := by intro zk; refine oq (op_lda (L := rootC _) 0 ag_24 rfl rfl (nodeC_af0 _) (by simp [nodeC_len])) ?_; exact zk.h) : p := h ⟨k⟩
theorem Z9j {p q : Prop} (k : q) (h : Hid q → p := by intro zk; refine rg_q (wn_none rfl) (op_ld 0 sc_42 rfl rfl rfl) rfl rfl ?_; exact zk.h) : p := h ⟨k⟩
theorem Z8m {p q : Prop} (k : q) (h : Hid q → p := by intro zk; refine rg_q (wn_none rfl) (op_field fld_116_0 rfl) rfl rfl ?_; exact zk.h) : p := h ⟨k⟩
theorem Z22 {p q : Prop} (k : q) (h : Hid q → p := by intro zk; refine e_q 0 rfl (wn_none rfl) (op_move (v := .pointer _) rfl) ?_; exact zk.h) : p := h ⟨k⟩
theorem Z8n {p q : Prop} (k : q) (h : Hid q → p := by intro zk; refine e_q 2 rfl (wn_none rfl) (op_move (v := .pointer _) rfl) ?_; exact zk.h) : p := h ⟨k⟩
theorem Z5v {p q : Prop} (k : q) (h : Hid q → p := by intro zk; refine ei_i rfl rfl (wn_none rfl) (os_q (op_ld 0 sc_42 rfl rfl rfl)) rfl ?_; rintro _ _ ⟨rfl, rfl⟩; refine ⟨[_, _, _], rfl, ?_⟩; exact zk.h) : p := h ⟨k⟩
theorem Z23 {a0 : Sort _} {q : ∀ (zz0 : a0), Prop} {p : Prop} (k : ∀ (zz0 : a0), q zz0) (h : Hid (∀ (zz0 : a0), q zz0) → p := by intro zk; refine ei_i rfl rfl (wn_none rfl) (os_bslice (E := encI64) [_] (ys := [_]) sB_42 zv_3 rfl rfl rfl rfl (by decide)) rfl ?_; rintro _ _ ⟨zz0, rfl, rfl⟩; refine ⟨[_, _, _, _], rfl, ?_⟩; exact zk.h zz0) : p := h ⟨k⟩
theorem Z2y {a0 : Sort _} {a1 : ∀ (zz0 : a0), Sort _} {q : ∀ (zz0 : a0) (zz1 : a1 zz0), Prop} {p : Prop} (k : ∀ (zz0 : a0) (zz1 : a1 zz0), q zz0 zz1) (h : Hid (∀ (zz0 : a0) (zz1 : a1 zz0), q zz0 zz1) → p := by intro zk; refine ei_i rfl rfl (wn_none rfl) (os_pull2 (os_append (E := encI64) rfl sB_42 zv_3 rfl rfl rfl (fun w s => (rds_row 1 rfl rfl) [] w s) rfl (by simp; omega) (by unfold maxLen; simp; omega))) rfl ?_; rintro _ _ ⟨zz0, zz1, rfl, rfl⟩; refine ⟨[_, _, _, _], rfl, ?_⟩; exact zk.h zz0 zz1) : p := h ⟨k⟩
theorem Z9k {p q : Prop} (k : q) (h : Hid q → p := by intro zk; refine ei_i rfl rfl (wn_none rfl) (os_q (op_ld 2 sc_42 rfl rfl rfl)) rfl ?_; rintro _ _ ⟨rfl, rfl⟩; refine ⟨[_, _, _, _], rfl, ?_⟩; exact zk.h) : p := h ⟨k⟩
theorem Z24 {p q : Prop} (k : q) (h : Hid q → p := by intro zk; refine et_1 (i := 12) (by kernel_rfl) ?_; exact zk.h) : p := h ⟨k⟩
theorem Z1d {a0 : Sort _} {q : ∀ (zz0 : a0), Prop} {p : Prop} (k : ∀ (zz0 : a0), q zz0) (h : Hid (∀ (zz0 : a0), q zz0) → p := by intro zk; refine ei_i rfl rfl (wn_none rfl) (os_bslice (E := encI64) [_] (ys := [_]) sB_42 zv_3 rfl rfl rfl rfl (by decide)) rfl ?_; rintro _ _ ⟨zz0, rfl, rfl⟩; refine ⟨[_, _, _, _, _], rfl, ?_⟩; exact zk.h zz0) : p := h ⟨k⟩
theorem Z5i {p q : Prop} (k : q) (h : Hid q → p := by intro zk; refine et_1 (i := 13) (by kernel_rfl) ?_; exact zk.h) : p := h ⟨k⟩
theorem Z6e {p q : Prop} (k : q) (h : Hid q → p := by intro zk; refine et_1 (i := 16) (by kernel_rfl) ?_; exact zk.h) : p := h ⟨k⟩
theorem Z3 {p : Prop} (h : p := by repeat (first | exact kept_self | exact kept_over | refine kept_upd rfl ?_ | refine kept_overS (by decide) ?_)) : p := h
theorem Z2l {p q : Prop} (k : q) (h : Hid q → p := by intro zk; refine et_1 (i := 11) (by kernel_rfl) ?_; exact zk.h) : p := h ⟨k⟩
theorem Z1h {p q : Prop} (k : q) (h : Hid q → p := by intro zk; refine ei_i rfl rfl (wn_none rfl) (os_q (op_ld 1 sc_42 rfl rfl rfl)) rfl ?_; rintro _ _ ⟨rfl, rfl⟩; refine ⟨[_, _, _, _], rfl, ?_⟩; exact zk.h) : p := h ⟨k⟩
theorem Z40 {p q0 q1 : Prop} (k0 : q0) (k1 : q1) (h : Hid q0 → Hid q1 → p := by intro zk0 zk1; refine et_2 (i1 := 7) (i2 := 12) (by kernel_rfl) ?_ ?_; exact zk0.h; exact zk1.h) : p := h ⟨k0⟩ ⟨k1⟩
theorem Zt {p q : Prop} (k : q) (h : Hid q → p := by intro zk; refine et_1 (i := 7) (by kernel_rfl) ?_; exact zk.h) : p := h ⟨k⟩
theorem Z6f {a0 : Sort _} {a1 : ∀ (zz0 : a0), Sort _} {q : ∀ (zz0 : a0) (zz1 : a1 zz0), Prop} {p : Prop} (k : ∀ (zz0 : a0) (zz1 : a1 zz0), q zz0 zz1) (h : Hid (∀ (zz0 : a0) (zz1 : a1 zz0), q zz0 zz1) → p := by intro zk; refine ei_i rfl rfl (wn_none rfl) (os_pull3 (os_append (E := encI64) rfl sB_42 zv_3 rfl rfl rfl (fun w s => (rds_row 2 rfl rfl) [] w s) rfl (by simp; omega) (by unfold maxLen; simp; omega))) rfl ?_; rintro _ _ ⟨zz0, zz1, rfl, rfl⟩; refine ⟨[_, _, _, _, _], rfl, ?_⟩; exact zk.h zz0 zz1) : p := h ⟨k⟩
theorem Z41 {p q0 q1 : Prop} (k0 : q0) (k1 : q1) (h : Hid q0 → Hid q1 → p := by intro zk0 zk1; refine et_2 (i1 := 7) (i2 := 11) (by kernel_rfl) ?_ ?_; exact zk0.h; exact zk1.h) : p := h ⟨k0⟩ ⟨k1⟩
theorem Z5j {p q : Prop} (k : q) (h : Hid q → p := by intro zk; refine ei_i rfl rfl (wn_none rfl) (os_q (op_ld 2 sc_42 rfl rfl rfl)) rfl ?_; rintro _ _ ⟨rfl, rfl⟩; refine ⟨[_, _, _, _, _], rfl, ?_⟩; exact zk.h) : p := h ⟨k⟩
theorem Z6g {a0 : Sort _} {a1 : ∀ (zz0 : a0), Sort _} {q : ∀ (zz0 : a0) (zz1 : a1 zz0), Prop} {p : Prop} (k : ∀ (zz0 : a0) (zz1 : a1 zz0), q zz0 zz1) (h : Hid (∀ (zz0 : a0) (zz1 : a1 zz0), q zz0 zz1) → p := by intro zk; refine ei_i rfl rfl (wn_none rfl) (os_pull3 (os_append (E := encI64) rfl sB_42 zv_3 rfl rfl rfl (fun w s => (rds_row 1 rfl rfl) [] w s) rfl (by simp; omega) (by unfold maxLen; simp; omega))) rfl ?_; rintro _ _ ⟨zz0, zz1, rfl, rfl⟩; refine ⟨[_, _, _, _, _], rfl, ?_⟩; exact zk.h zz0 zz1) : p := h ⟨k⟩
theorem Z6x {p q : Prop} (k : q) (h : Hid q → p := by intro zk; refine et_1 (i := 5) (by kernel_rfl) ?_; exact zk.h) : p := h ⟨k⟩
theorem Z2 {p : Prop} (h : p := by repeat (first | exact kept_over | refine kept_upd rfl ?_ | refine kept_overS (by decide) ?_)) : p := h
theorem Z5k {p q : Prop} (k : q) (h : Hid q → p := by intro zk; refine oq (op_len_slice Try.underlying42 rfl) ?_; exact zk.h) : p := h ⟨k⟩
theorem Zbi {p q : Prop} (k : q) (h : Hid q → p := by intro zk; refine rg_i (wn_none rfl) (os_q (op_index i1 sB_42 rfl rfl rfl (rds_row 1 rfl rfl) (by first | rfl | (rw [tab_len]; omega) | (rw [hbl]; omega)) (by rw [tab_len]; omega))) rfl rfl ?_; rintro _ _ ⟨rfl, rfl⟩; refine ⟨[_, _], rfl, ?_⟩; exact zk.h) : p := h ⟨k⟩
theorem Zbj {p q : Prop} (k : q) (h : Hid q → p := by intro zk; refine rg_iN (wn_none rfl) (os_pull1 (os_stsw  sc_3 rfl rfl rfl (by rw [tab_len]; omega) rfl rfl)) rfl ?_; rintro _ _ ⟨rfl, rfl⟩; refine ⟨[_, _], rfl, ?_⟩; exact zk.h) : p := h ⟨k⟩
theorem Z1b {p q : Prop} (k : q) (h : Hid q → p := by intro zk; refine cd_region ?_; exact zk.h) : p := h ⟨k⟩
theorem Z2m {p q : Prop} (k : q) (h : Hid q → p := by intro zk; refine oq (op_sub rfl rfl (by omega) (by omega)) ?_; exact zk.h) : p := h ⟨k⟩
theorem Zw {p q : Prop} (k : q) (h : Hid q → p := by intro zk; refine oq (op_assign (v := .slice _ _ _) rfl) ?_; exact zk.h) : p := h ⟨k⟩
theorem Zm {p q : Prop} (k : q) (h : Hid q → p := by intro zk; refine oq (op_move (v := .slice _ _ _) rfl) ?_; exact zk.h) : p := h ⟨k⟩
theorem Z9l {p q : Prop} (k : q) (h : Hid q → p := by intro zk; refine rg_i (wn_none rfl) (os_call cb_31 rfl (fun w s => Place_calls _ _ _  s )) rfl rfl ?_; rintro _ _ ⟨rfl, rfl⟩; refine ⟨[_], rfl, ?_⟩; exact zk.h) : p := h ⟨k⟩
theorem Zbk {p : Prop} (h : p := by exact px_ret2 rfl (v1 := .slice none 0 0) (v2 := .int _ 1) (l' := Row 3 encI64 (.slice none ([] : List Int).length 0) [] :: TreeObj pt t :: WRaw pw pt o sm be lf :: l) rfl rfl (fun _ s => Sat.rowNil ((Sat.wrawMk rfl rfl rfl rfl (((((((s.del 2).del 1).pull 5).pull 5).pull 5).pull 5).pull 5)).pull 1)) ⟨[], none, 0, by rw [hnx]; rfl, rfl, fun h => by rw [hnx] at h; cases h⟩) : p := h
theorem Z5w {p q : Prop} (k : q) (h : Hid q → p := by intro zk; refine rg_q (wn_none rfl) (op_move (v := .slice _ _ _) rfl) rfl rfl ?_; exact zk.h) : p := h ⟨k⟩
theorem Zbl {p q : Prop} (k : q) (h : Hid q → p := by intro zk; refine rg_i (wn_none rfl) (os_q (op_index j0 sB_42 rfl rfl hpj (rds_row 2 rfl rfl) (by simp; omega) (by omega))) rfl rfl ?_; rintro _ _ ⟨rfl, rfl⟩; refine ⟨[], rfl, ?_⟩; exact zk.h) : p := h ⟨k⟩
theorem Z6y {p q : Prop} (k : q) (h : Hid q → p := by intro zk; refine rg_q (wn_none rfl) (op_add rfl rfl (by omega) (by omega)) rfl rfl ?_; exact zk.h) : p := h ⟨k⟩
theorem Z2z {p q : Prop} (k : q) (h : Hid q → p := by intro zk; refine ol_skip (wn_some rfl rfl rfl hb5 rfl) rfl ?_; exact zk.h) : p := h ⟨k⟩
theorem Zbm {p : Prop} (h : p := by exact px_ret2 rfl (v1 := .slice none 0 0) (v2 := .int _ 1) (l' := Row 3 encI64 (.slice none ([] : List Int).length 0) [] :: TreeObj pt t :: WRaw pw pt o sm be lf :: l) rfl rfl (fun _ s => Sat.rowNil ((Sat.wrawMk rfl rfl rfl rfl (((((((s.del 2).del 0).pull 5).pull 5).pull 5).pull 5).pull 5)).pull 1)) ⟨[], none, 0, by rw [hnx]; rfl, rfl, fun h => by rw [hnx] at h; cases h⟩) : p := h
theorem Z3l {p q : Prop} (k : q) (h : Hid q → p := by intro zk; refine oq (op_extract (v := .int _ _) rfl rfl) ?_; exact zk.h) : p := h ⟨k⟩
theorem Z54 {p q : Prop} (k : q) (h : Hid q → p := by intro zk; refine oq (op_eq rfl rfl) ?_; exact zk.h) : p := h ⟨k⟩
theorem Z25 {p q : Prop} (k : q) (h : Hid q → p := by intro zk; refine ol_pull6 ?_; exact zk.h) : p := h ⟨k⟩
theorem Zap {p q : Prop} (k : q) (h : Hid q → p := by intro zk; refine oN (os_store (v := .slice _ _ _) sc_42 rfl rfl rfl rfl (Free.zero _) rfl) ?_; rintro _ _ ⟨rfl, rfl⟩; exact zk.h) : p := h ⟨k⟩
theorem Zaq {p q : Prop} (k : q) (h : Hid q → p := by intro zk; refine oq (op_index i sB_42 rfl rfl rfl (rds_row 2 rfl rfl) (by omega) (by omega)) ?_; exact zk.h) : p := h ⟨k⟩
theorem Zar {p : Prop} (h : p := by exact px_ret1 rfl (v := .int _ _) rfl (fun _ s => s) ⟨congrArg (Value.int .i64) (by rw [oA_get (show i < T.length by omega)]), rfl⟩) : p := h
theorem Z55 {p q : Prop} (k : q) (h : Hid q → p := by intro zk; refine cd_draw (M := [_]) mx [5] (by kernel_rfl) ?_; exact zk.h) : p := h ⟨k⟩
theorem Z6z {p q : Prop} (k : q) (h : Hid q → p := by intro zk; refine rg_q (wn_none rfl) (op_ld 1 sc_26 rfl rfl rfl) rfl rfl ?_; exact zk.h) : p := h ⟨k⟩
theorem Z5x {p q : Prop} (k : q) (h : Hid q → p := by intro zk; refine ol_q (wn_some rfl rfl rfl hb1 rfl) (op_lt rfl rfl) rfl ?_; exact zk.h) : p := h ⟨k⟩
theorem Z70 {p : Prop} (h : p := by exact px_ret1 rfl (v := .int _ _) (l' := TreeObj pt t :: WRaw pw pt o sm be lf :: Blk b (.cells #[.pointer (some ⟨pw, 0, none⟩)] 27 (0, 0)) :: l) rfl (fun _ s => ((Sat.wrawMk rfl rfl rfl rfl ((((((((s.del 1).pull 6).pull 1).pull 6).pull 6).pull 6).pull 6).pull 6)).pull 1)) ⟨congrArg (Value.int .i64) ((ofF_no (by omega)).symm), rfl⟩) : p := h
theorem Z8o {p q : Prop} (k : q) (h : Hid q → p := by intro zk; refine oq (op_lda (L := rootC _) 1 ag_24 rfl rfl (rootC_take' _) (by simp [rootC_len])) ?_; exact zk.h) : p := h ⟨k⟩
theorem Z5y {p q : Prop} (k : q) (h : Hid q → p := by intro zk; refine e_q 1 rfl (wn_none rfl) (op_nilck rfl) ?_; exact zk.h) : p := h ⟨k⟩
theorem Z5z {p q : Prop} (k : q) (h : Hid q → p := by intro zk; refine et_1 (i := 15) (by kernel_rfl) ?_; exact zk.h) : p := h ⟨k⟩
theorem Zbn {p : Prop} (h : p := by exact px_rv1 rfl (rv_cella 0 ag_24 rfl rfl (rootC_take' _) (by simp [rootC_len])) (l' := TreeObj pt t :: WObj pw pt t.nodes o :: l) (fun _ s => ((Sat.wrawMk rfl rfl rfl rfl (((((((s.del 1).del 0).pull 5).pull 5).pull 5).pull 5).pull 5)).pull 1)) ⟨rfl, rfl⟩) : p := h
theorem Z9m {p q : Prop} (k : q) (h : Hid q → p := by intro zk; refine oi (os_call cb_29 rfl (fun w s => Len_calls _ _  s )) ?_; rintro _ _ ⟨rfl, rfl⟩; exact zk.h) : p := h ⟨k⟩
theorem Zy {p q : Prop} (k : q) (h : Hid q → p := by intro zk; refine et_1 (i := 8) (by kernel_rfl) ?_; exact zk.h) : p := h ⟨k⟩
theorem Z9n {p : Prop} (h : p := by exact px_ret2 rfl (v1 := .pointer _) (v2 := .bool _) rfl rfl (fun _ s => (s.del 0)) (.inl ⟨rfl, rfl, by omega⟩)) : p := h
theorem Z9o {a0 : Sort _} {q : ∀ (zz0 : a0), Prop} {p : Prop} (k : ∀ (zz0 : a0), q zz0) (h : Hid (∀ (zz0 : a0), q zz0) → p := by intro zk; refine oi (os_bslice (E := encI64) [_] (ys := [_]) sB_42 zv_3 rfl rfl rfl rfl (by decide)) ?_; rintro _ _ ⟨zz0, rfl, rfl⟩; exact zk.h zz0) : p := h ⟨k⟩
theorem Zbo {p q : Prop} (k : q) (h : Hid q → p := by intro zk; refine cd_loop2 (α := Nat) [(4, 6), (12, 21)] (fun x => [(12, .int .i64 (x : Int))]) (fun _ => _) (fun x => x ≤ R.length ∧ ∀ j (h : j < R.length), j < x → R[j] ≠ r) (fun x => R.length - x) 0 ⟨Nat.zero_le _, fun j h h2 => absurd h2 (Nat.not_lt_zero _)⟩ ⟨rfl, trivial⟩ (fun _ s => s) ?_; exact zk.h) : p := h ⟨k⟩
theorem Zas {p : Prop} (h : p := by exact px_ret1 rfl (v := .int _ _) rfl (fun _ s => s) ⟨congrArg (Value.int .i64) e.symm, rfl⟩) : p := h
theorem Z8p {p : Prop} (h : p := by exact px_ret1 rfl (v := .int _ _) (l' := RTreeObj p t :: l) rfl (fun _ s => Sat.rtreeMk (t := t) hw hR (by simp) (by simp) (by simp) ((s.del 3).del 2)) ⟨rfl, rfl⟩) : p := h
theorem Z71 {p q : Prop} (k : q) (h : Hid q → p := by intro zk; refine rg_q (wn_none rfl) (op_field fld_44_0 rfl) rfl rfl ?_; exact zk.h) : p := h ⟨k⟩
theorem Z72 {p q : Prop} (k : q) (h : Hid q → p := by intro zk; refine rg_q (wn_none rfl) (op_ld 0 sc_37 rfl rfl rfl) rfl rfl ?_; exact zk.h) : p := h ⟨k⟩
theorem Z8q {p q : Prop} (k : q) (h : Hid q → p := by intro zk; refine cd_drawt (M := [_]) mx [6, 7] 8 (by kernel_rfl) rfl rfl ?_; exact zk.h) : p := h ⟨k⟩
theorem Z8r {a0 : Sort _} {q : ∀ (zz0 : a0), Prop} {p : Prop} (k : ∀ (zz0 : a0), q zz0) (h : Hid (∀ (zz0 : a0), q zz0) → p := by intro zk; refine rg_i (wn_none rfl) (os_bslice (E := encRoot) [_] (ys := [_]) sB_37 zv_24 rfl rfl rfl rfl (by decide)) rfl rfl ?_; rintro _ _ ⟨zz0, rfl, rfl⟩; refine ⟨[_, _], rfl, ?_⟩; exact zk.h zz0) : p := h ⟨k⟩
theorem Zbp {a0 : Sort _} {a1 : ∀ (zz0 : a0), Sort _} {q : ∀ (zz0 : a0) (zz1 : a1 zz0), Prop} {p : Prop} (k : ∀ (zz0 : a0) (zz1 : a1 zz0), q zz0 zz1) (h : Hid (∀ (zz0 : a0) (zz1 : a1 zz0), q zz0 zz1) → p := by intro zk; refine rg_i (wn_none rfl) (os_pull1 (os_append (E := encRoot) rfl sB_37 zv_24 rfl rfl rfl (fun w s => (rds_row 1 rfl rfl) [] w s) rfl (by simp; omega) (by unfold maxLen; simp; omega))) rfl rfl ?_; rintro _ _ ⟨zz0, zz1, rfl, rfl⟩; refine ⟨[_, _], rfl, ?_⟩; exact zk.h zz0 zz1) : p := h ⟨k⟩
theorem Z8s {p q : Prop} (k : q) (h : Hid q → p := by intro zk; refine oN (os_store (v := .slice _ _ _) sc_37 rfl rfl rfl rfl (Free.zero _) rfl) ?_; rintro _ _ ⟨rfl, rfl⟩; exact zk.h) : p := h ⟨k⟩
theorem Zbq {p q : Prop} (k : q) (h : Hid q → p := by intro zk; refine oli_iN (wn_none rfl) (os_storew (nodeC _) ag_51 rfl rfl (nodeC_len _) (nodeC_one _) (by simp [nodeC_len]) (Free.zero _)) ?_; rintro _ _ ⟨rfl, rfl⟩; exact zk.h) : p := h ⟨k⟩
theorem Z5l {p q : Prop} (k : q) (h : Hid q → p := by intro zk; refine oq (op_extract (v := .pointer _) rfl rfl) ?_; exact zk.h) : p := h ⟨k⟩
theorem Zat {p q : Prop} (k : q) (h : Hid q → p := by intro zk; refine e_q 1 rfl (wn_none rfl) (op_lda (L := rootC _) 0 ag_24 rfl rfl (rootC_take' _) (by simp [rootC_len])) ?_; exact zk.h) : p := h ⟨k⟩
theorem Z9p {p : Prop} (h : p := by exact px_ret1 rfl (v := .bool _) rfl (fun _ s => s) ⟨congrArg Value.bool (by simp [*]), rfl⟩) : p := h
theorem Z9q {p : Prop} (h : p := by exact px_ret1 rfl (v := .pointer _) rfl (fun _ s => s) (.inl ⟨rfl, rfl, by omega⟩)) : p := h
theorem Z6h {p q : Prop} (k : q) (h : Hid q → p := by intro zk; refine e_q 0 rfl (wn_none rfl) (op_move (v := .int _ _) rfl) ?_; exact zk.h) : p := h ⟨k⟩
theorem Z73 {a0 : Sort _} {q : ∀ (zz0 : a0), Prop} {p : Prop} (k : ∀ (zz0 : a0), q zz0) (h : Hid (∀ (zz0 : a0), q zz0) → p := by intro zk; refine ei_i rfl rfl (wn_none rfl) (os_make (E := encBool) (_) (false) sB_133 zv_4 rfl rfl rfl (Int.toNat_of_nonneg (by omega)).symm (by omega) (by unfold maxLen; omega)) rfl ?_; rintro _ _ ⟨zz0, rfl, rfl⟩; refine ⟨[_, _], rfl, ?_⟩; exact zk.h zz0) : p := h ⟨k⟩
theorem Z74 {p q : Prop} (k : q) (h : Hid q → p := by intro zk; refine e_q 6 rfl (wn_none rfl) (op_build (L := [_, _, _, _]) (vs := [(0, .int _ _), (1, .slice _ _ _), (2, .slice _ _ _), (3, .map _)]) bB_136 rfl ⟨⟨rfl, rfl⟩, ⟨rfl, rfl⟩, ⟨rfl, rfl⟩, ⟨rfl, rfl⟩, trivial⟩ rfl) ?_; exact zk.h) : p := h ⟨k⟩
theorem Z42 {a0 : Sort _} {q : ∀ (zz0 : a0), Prop} {p : Prop} (k : ∀ (zz0 : a0), q zz0) (h : Hid (∀ (zz0 : a0), q zz0) → p := by intro zk; refine ei_i rfl rfl (wn_none rfl) (os_boxa rfl) rfl ?_; rintro _ _ ⟨zz0, rfl, rfl⟩; refine ⟨[_, _, _, _], rfl, ?_⟩; exact zk.h zz0) : p := h ⟨k⟩
theorem Z75 {p q : Prop} (k : q) (h : Hid q → p := by intro zk; refine e_q 8 rfl (wn_none rfl) (op_assign (v := .pointer _) rfl) ?_; exact zk.h) : p := h ⟨k⟩
theorem Z76 {p : Prop} (h : p := by exact Sat.tabMk (t := TabS.new n.toNat sl) (TabS.WF.new (by omega) (by omega) (by omega)) rfl rfl ((((s2.pull 1).pull 4).pull 4).pull 4)) : p := h
theorem Z77 {a0 : Sort _} {q : ∀ (zz0 : a0), Prop} {p : Prop} (k : ∀ (zz0 : a0), q zz0) (h : Hid (∀ (zz0 : a0), q zz0) → p := by intro zk; refine ei_i rfl rfl (wn_none rfl) (os_make (E := encBool) (_) (false) sB_133 zv_4 rfl rfl rfl (Int.toNat_of_nonneg (by omega)).symm (by omega) (by unfold maxLen; omega)) rfl ?_; rintro _ _ ⟨zz0, rfl, rfl⟩; refine ⟨[_, _, _], rfl, ?_⟩; exact zk.h zz0) : p := h ⟨k⟩
theorem Zau {a0 : Sort _} {q : ∀ (zz0 : a0), Prop} {p : Prop} (k : ∀ (zz0 : a0), q zz0) (h : Hid (∀ (zz0 : a0), q zz0) → p := by intro zk; refine ei_i rfl rfl (wn_none rfl) (os_make (E := encBool) (_) (false) sB_133 zv_4 rfl rfl rfl (Int.toNat_of_nonneg (by omega)).symm (by omega) (by unfold maxLen; omega)) rfl ?_; rintro _ _ ⟨zz0, rfl, rfl⟩; refine ⟨[_], rfl, ?_⟩; exact zk.h zz0) : p := h ⟨k⟩
theorem Zbr {a0 : Sort _} {q : ∀ (zz0 : a0), Prop} {p : Prop} (k : ∀ (zz0 : a0), q zz0) (h : Hid (∀ (zz0 : a0), q zz0) → p := by intro zk; refine ei_i rfl rfl (wn_none rfl) (os_make (E := encPtr) (_) (none) sB_132 zv_137 rfl rfl rfl (Int.toNat_of_nonneg (by omega)).symm (by omega) (by unfold maxLen; omega)) rfl ?_; rintro _ _ ⟨zz0, rfl, rfl⟩; refine ⟨[_, _], rfl, ?_⟩; exact zk.h zz0) : p := h ⟨k⟩
theorem Z8t {p q : Prop} (k : q) (h : Hid q → p := by intro zk; refine et_1 (i := 2) (by kernel_rfl) ?_; exact zk.h) : p := h ⟨k⟩
theorem Zbs {a0 : Sort _} {q : ∀ (zz0 : a0), Prop} {p : Prop} (k : ∀ (zz0 : a0), q zz0) (h : Hid (∀ (zz0 : a0), q zz0) → p := by intro zk; refine ei_i rfl rfl (wn_none rfl) (os_make (E := encPtr) (_) (none) sB_132 zv_137 rfl rfl rfl (Int.toNat_of_nonneg (by omega)).symm (by omega) (by unfold maxLen; omega)) rfl ?_; rintro _ _ ⟨zz0, rfl, rfl⟩; refine ⟨[_, _, _], rfl, ?_⟩; exact zk.h zz0) : p := h ⟨k⟩
theorem Z5m {p q : Prop} (k : q) (h : Hid q → p := by intro zk; refine oq (op_field fld_84_0 rfl) ?_; exact zk.h) : p := h ⟨k⟩
theorem Z9r {p : Prop} (h : p := by exact px_ret1 rfl (v := .int _ _) (l' := TabObj p t :: l) rfl (fun _ s => Sat.tabMk (t := t) hw2 (by simp) (by simp) (s.del 1)) ⟨rfl, rfl⟩) : p := h
theorem Z1x {p q : Prop} (k : q) (h : Hid q → p := by intro zk; refine rg_q (wn_none rfl) (op_field fld_84_0 rfl) rfl rfl ?_; exact zk.h) : p := h ⟨k⟩
theorem Z9s {p q : Prop} (k : q) (h : Hid q → p := by intro zk; refine rg_q (wn_none rfl) (op_ld 1 sc_3 rfl rfl (voteC_a0 _)) rfl rfl ?_; exact zk.h) : p := h ⟨k⟩
theorem Zav {p q : Prop} (k : q) (h : Hid q → p := by intro zk; refine rg_q (wn_none rfl) (op_quo rfl rfl (by omega) (by omega) (by omega)) rfl rfl ?_; exact zk.h) : p := h ⟨k⟩
theorem Z9t {p q : Prop} (k : q) (h : Hid q → p := by intro zk; refine rg_q (wn_none rfl) (op_field fld_136_3 rfl) rfl rfl ?_; exact zk.h) : p := h ⟨k⟩
theorem Z6i {p q : Prop} (k : q) (h : Hid q → p := by intro zk; refine cd_drawt (M := []) mx [] 7 (by kernel_rfl) rfl rfl ?_; exact zk.h) : p := h ⟨k⟩
theorem Z9u {p q : Prop} (k : q) (h : Hid q → p := by intro zk; refine rg_q (wn_none rfl) (op_field fld_84_2 rfl) rfl rfl ?_; exact zk.h) : p := h ⟨k⟩
theorem Z9v {p q : Prop} (k : q) (h : Hid q → p := by intro zk; refine rg_q (wn_none rfl) (op_field fld_136_1 rfl) rfl rfl ?_; exact zk.h) : p := h ⟨k⟩
theorem Z56 {p q : Prop} (k : q) (h : Hid q → p := by intro zk; refine rg_q (wn_none rfl) (op_assign (v := .pointer _) rfl) rfl rfl ?_; exact zk.h) : p := h ⟨k⟩
theorem Z43 {p q : Prop} (k : q) (h : Hid q → p := by intro zk; refine rg_skip (wn_some rfl rfl rfl rfl rfl) rfl ?_; exact zk.h) : p := h ⟨k⟩
theorem Z60 {p q : Prop} (k : q) (h : Hid q → p := by intro zk; refine oq (op_field fld_84_2 rfl) ?_; exact zk.h) : p := h ⟨k⟩
theorem Z57 {p q : Prop} (k : q) (h : Hid q → p := by intro zk; refine rg_q (wn_none rfl) (op_ld 3 sc_3 rfl rfl (voteC_a0 _)) rfl rfl ?_; exact zk.h) : p := h ⟨k⟩
theorem Z8u {p q : Prop} (k : q) (h : Hid q → p := by intro zk; refine rg_q (wn_none rfl) (op_index _ sB_133 rfl rfl (Int.toNat_of_nonneg (by omega)).symm (rds_row 5 rfl rfl) rfl (by omega)) rfl rfl ?_; exact zk.h) : p := h ⟨k⟩
theorem Z9w {p q : Prop} (k : q) (h : Hid q → p := by intro zk; refine oN (os_stsw  sc_4 rfl rfl rfl (by omega) rfl rfl) ?_; rintro _ _ ⟨rfl, rfl⟩; exact zk.h) : p := h ⟨k⟩
theorem Z9x {a0 : Sort _} {q : ∀ (zz0 : a0), Prop} {p : Prop} (k : ∀ (zz0 : a0), q zz0) (h : Hid (∀ (zz0 : a0), q zz0) → p := by intro zk; refine oi (os_alloc (cs := (voteC Vote.zero).toArray) zB_84 (by kernel_rfl)) ?_; rintro _ _ ⟨zz0, rfl, rfl⟩; exact zk.h zz0) : p := h ⟨k⟩
theorem Z78 {p q : Prop} (k : q) (h : Hid q → p := by intro zk; refine oN (os_storew (voteC _) ag_84 rfl rfl (voteC_len _) (voteC_one _) (by simp [voteC_len]) (Free.zero _)) ?_; rintro _ _ ⟨rfl, rfl⟩; exact zk.h) : p := h ⟨k⟩
theorem Zbt {p : Prop} (h : p := by exact px_rv2 rfl (rv_cella 0 ag_84 rfl rfl (voteC_ta _) (by simp [voteC_len])) (rv_tmp (v := .bool _) rfl) (fun _ s => Sat.tabMk hw rfl rfl ((((((s.del 0).pull 1).pull 4).pull 4).pull 4).pull 4)) ⟨rfl, rfl⟩) : p := h
theorem Z9y {p : Prop} (h : p := by exact px_ret2 rfl (v1 := .pointer _) (v2 := .bool _) rfl rfl (fun _ s => s) (.inl ⟨rfl, rfl, by omega⟩)) : p := h
theorem Z79 {p q : Prop} (k : q) (h : Hid q → p := by intro zk; refine e_q 8 rfl (wn_none rfl) (op_build (L := [_, _, _, _, _, _]) (vs := [(0, .int _ _), (1, .int _ _), (3, .slice _ _ _), (4, .slice _ _ _), (5, .slice _ _ _)]) bB_153 rfl ⟨⟨rfl, rfl⟩, ⟨rfl, rfl⟩, ⟨rfl, rfl⟩, ⟨rfl, rfl⟩, ⟨rfl, rfl⟩, trivial⟩ rfl) ?_; exact zk.h) : p := h ⟨k⟩
theorem Z26 {p q : Prop} (k : q) (h : Hid q → p := by intro zk; refine et_1 (i := 9) (by kernel_rfl) ?_; exact zk.h) : p := h ⟨k⟩
theorem Z7a {p q : Prop} (k : q) (h : Hid q → p := by intro zk; refine e_q 10 rfl (wn_none rfl) (op_assign (v := .pointer _) rfl) ?_; exact zk.h) : p := h ⟨k⟩
theorem Z7b {p q : Prop} (k : q) (h : Hid q → p := by intro zk; refine e_q 11 rfl (wn_none rfl) (op_assign (v := .bool _) rfl) ?_; exact zk.h) : p := h ⟨k⟩
theorem Z7c {p : Prop} (h : p := by exact Sat.rtabMk (t := TabS.new k sl) (N := k) (F := []) (Lv := List.replicate k Vote.zero) (Hs := List.replicate k false) (Ou := List.replicate k false) (TabS.WF.new (by omega) (by omega) (by omega)) ⟨by simp [TabS.new], by simp [TabS.new], by simp [TabS.new], by simp [TabS.new], by simp [TabS.new]⟩ rfl (by simp) (by simp) (by simp) ((((((Sat.rowNil (e := 155) (E := encFirst) s2).pull 4).pull 4).pull 4).pull 3).pull 4)) : p := h
theorem Zbu {a0 : Sort _} {q : ∀ (zz0 : a0), Prop} {p : Prop} (k : ∀ (zz0 : a0), q zz0) (h : Hid (∀ (zz0 : a0), q zz0) → p := by intro zk; refine ei_i rfl rfl (wn_none rfl) (os_make (E := encVote) (_) (Vote.zero) sB_151 zv_84 rfl rfl rfl (Int.toNat_of_nonneg (by omega)).symm (by omega) (by unfold maxLen; omega)) rfl ?_; rintro _ _ ⟨zz0, rfl, rfl⟩; refine ⟨[_, _], rfl, ?_⟩; exact zk.h zz0) : p := h ⟨k⟩
theorem Zbv {a0 : Sort _} {q : ∀ (zz0 : a0), Prop} {p : Prop} (k : ∀ (zz0 : a0), q zz0) (h : Hid (∀ (zz0 : a0), q zz0) → p := by intro zk; refine ei_i rfl rfl (wn_none rfl) (os_make (E := encVote) (_) (Vote.zero) sB_151 zv_84 rfl rfl rfl (Int.toNat_of_nonneg (by omega)).symm (by omega) (by unfold maxLen; omega)) rfl ?_; rintro _ _ ⟨zz0, rfl, rfl⟩; refine ⟨[_, _, _], rfl, ?_⟩; exact zk.h zz0) : p := h ⟨k⟩
theorem Z9z {p : Prop} (h : p := by exact px_ret1 rfl (v := .int _ _) (l' := RTabObj p t :: l) rfl (fun _ s => Sat.rtabMk (t := t) hw2 hR (by simp) (by simp) (by simp) (by simp) (s.del 1)) ⟨rfl, rfl⟩) : p := h
theorem Z6j {p q : Prop} (k : q) (h : Hid q → p := by intro zk; refine oq (op_ld 2 sc_3 rfl rfl (voteC_a0 _)) ?_; exact zk.h) : p := h ⟨k⟩
theorem Z7d {p q : Prop} (k : q) (h : Hid q → p := by intro zk; refine ol_skip (wn_some rfl rfl rfl hb6 rfl) rfl ?_; exact zk.h) : p := h ⟨k⟩
theorem Z61 {p q : Prop} (k : q) (h : Hid q → p := by intro zk; refine rg_q (wn_none rfl) (op_lda (L := voteC _) 3 ag_84 rfl rfl (voteC_ta _) (by simp [voteC_len])) rfl rfl ?_; exact zk.h) : p := h ⟨k⟩
theorem Zbw {p : Prop} (h : p := by exact px_ret1 rfl (v := .int _ _) (l' := RTabObj p { t with first := ins t.first (v.who, v.slot / t.slots) v.target, latest := t.latest.set v.who.toNat (some v) } :: l) rfl (fun _ s => Sat.rtabMk (t := { t with first := ins t.first (v.who, v.slot / t.slots) v.target, latest := t.latest.set v.who.toNat (some v) }) hw2 ⟨by simp [hR.n], by rw [hR.f, ins_none hlk, List.map_append]; rfl, by rw [hR.l, List.map_set]; rfl, by rw [hR.h, List.map_set]; rfl, hR.o⟩ (by simp) (by simp) (by simp) (by simp) (((((((s.del 5).del 4).pull 4).pull 1).pull 2).pull 4).pull 4)) ⟨rfl, rfl⟩) : p := h
theorem Z30 {p q : Prop} (k : q) (h : Hid q → p := by intro zk; refine rg_skip (wn_some rfl rfl rfl hb9 rfl) rfl ?_; exact zk.h) : p := h ⟨k⟩
theorem Za0 {p q : Prop} (k : q) (h : Hid q → p := by intro zk; refine rg_q (wn_some rfl rfl rfl hb2 rfl) (op_move (v := .int _ _) rfl) rfl rfl ?_; exact zk.h) : p := h ⟨k⟩
theorem Zbx {p : Prop} (h : p := by exact px_ret1 rfl (v := .bool _) rfl (fun _ s => s) ⟨congrArg Value.bool (by unfold inR; dsimp only; symm; first | exact decide_eq_true ⟨by omega, by omega⟩ | exact decide_eq_false (by omega) | (rw [Bool.eq_iff_iff]; simp; omega)), rfl⟩) : p := h
theorem Zaw {p : Prop} (h : p := by exact px_ret1 rfl (v := .bool _) rfl (fun _ s => (s.del 0)) ⟨congrArg Value.bool (by unfold valOK; (try unfold inR); rw [Bool.eq_iff_iff]; simp; omega), rfl⟩) : p := h
theorem Z4l {p q : Prop} (k : q) (h : Hid q → p := by intro zk; refine oq (op_len_slice Try.underlying63 rfl) ?_; exact zk.h) : p := h ⟨k⟩
theorem Z8v {a0 : Sort _} {q : ∀ (zz0 : a0), Prop} {p : Prop} (k : ∀ (zz0 : a0), q zz0) (h : Hid (∀ (zz0 : a0), q zz0) → p := by intro zk; refine oi (os_alloc (cs := (valC Val.zero).toArray) zB_78 (by kernel_rfl)) ?_; rintro _ _ ⟨zz0, rfl, rfl⟩; exact zk.h zz0) : p := h ⟨k⟩
theorem Z8w {p q : Prop} (k : q) (h : Hid q → p := by intro zk; refine oN (os_storew (valC _) ag_78 rfl rfl (valC_len _) (valC_one _) (by simp [valC_len]) (Free.zero _)) ?_; rintro _ _ ⟨rfl, rfl⟩; exact zk.h) : p := h ⟨k⟩
theorem Z7e {p : Prop} (h : p := by exact px_ret2 rfl (v1 := .int _ _) (v2 := .bool _) rfl rfl (fun _ s => (s.del 0)) ⟨rfl, rfl⟩) : p := h
theorem Z44 {p q : Prop} (k : q) (h : Hid q → p := by intro zk; refine oq (op_field fld_65_0 rfl) ?_; exact zk.h) : p := h ⟨k⟩
theorem Z7f {p q : Prop} (k : q) (h : Hid q → p := by intro zk; refine oq (op_ld 0 sc_63 rfl rfl (cfgC_a0 _)) ?_; exact zk.h) : p := h ⟨k⟩
theorem Z45 {p q : Prop} (k : q) (h : Hid q → p := by intro zk; refine oq (op_assign (v := .string _) rfl) ?_; exact zk.h) : p := h ⟨k⟩
theorem Z8x {p q : Prop} (k : q) (h : Hid q → p := by intro zk; refine e_q 5 rfl (wn_none rfl) (op_move (v := .int _ _) rfl) ?_; exact zk.h) : p := h ⟨k⟩
theorem Zax {p q : Prop} (k : q) (h : Hid q → p := by intro zk; refine ei_i rfl rfl (wn_none rfl) (os_q (op_b2s sB_162 Try.underlying5 Try.underlying9 rfl (rds_row 0 rfl rfl) rfl)) rfl ?_; rintro _ _ ⟨rfl, rfl⟩; refine ⟨[_], rfl, ?_⟩; exact zk.h) : p := h ⟨k⟩
theorem Zby {p q : Prop} (k : q) (h : Hid q → p := by intro zk; refine ei_i rfl rfl (wn_none rfl) (os_call cb_103 rfl (fun w s => ih _ (by rw [← hk, clamp8_pred hp1]; exact Nat.lt_succ_self _) _ _   s rfl (by omega))) rfl ?_; rintro _ _ ⟨rfl, rfl⟩; refine ⟨[_], rfl, ?_⟩; exact zk.h) : p := h ⟨k⟩
theorem Zay {p q : Prop} (k : q) (h : Hid q → p := by intro zk; refine e_q 11 rfl (wn_none rfl) (op_sadd rfl rfl (by simp only [putB_length, List.length_cons, List.length_nil]; have := clamp8_le ((if 8 < wd then 8 else wd) - 1); omega)) ?_; exact zk.h) : p := h ⟨k⟩
theorem Zaz {p : Prop} (h : p := by exact px_ret1 rfl (v := .string _) rfl (fun _ s => s.del 0) ⟨by rw [← hk, clamp8_pred hp1, putB_cons]; rfl, rfl⟩) : p := h
theorem Za1 {p q : Prop} (k : q) (h : Hid q → p := by intro zk; refine ei_i rfl rfl (wn_none rfl) (os_call cb_95 rfl (fun w s => In_calls (b := 64) _  s )) rfl ?_; rintro _ _ ⟨rfl, rfl⟩; refine ⟨[], rfl, ?_⟩; exact zk.h) : p := h ⟨k⟩
theorem Z4m {p q : Prop} (k : q) (h : Hid q → p := by intro zk; refine oq (op_lda (L := cfgC _) 0 ag_65 rfl rfl (cfgC_ta _) (by simp [cfgC_len])) ?_; exact zk.h) : p := h ⟨k⟩
theorem Zb0 {a0 : Sort _} {q : ∀ (zz0 : a0), Prop} {p : Prop} (k : ∀ (zz0 : a0), q zz0) (h : Hid (∀ (zz0 : a0), q zz0) → p := by intro zk; refine oi (os_alloc (cs := (wC (List.replicate 8 0)).toArray) zB_164 (by kernel_rfl)) ?_; rintro _ _ ⟨zz0, rfl, rfl⟩; exact zk.h zz0) : p := h ⟨k⟩
theorem Z8y {a0 : Sort _} {q : ∀ (zz0 : a0), Prop} {p : Prop} (k : ∀ (zz0 : a0), q zz0) (h : Hid (∀ (zz0 : a0), q zz0) → p := by intro zk; refine oi (os_alloc (cs := (wC (List.replicate 64 0)).toArray) zB_168 (by kernel_rfl)) ?_; rintro _ _ ⟨zz0, rfl, rfl⟩; exact zk.h zz0) : p := h ⟨k⟩
theorem Z8z {p q : Prop} (k : q) (h : Hid q → p := by intro zk; refine rg_q (wn_none rfl) (op_mul rfl rfl (by omega) (by omega)) rfl rfl ?_; exact zk.h) : p := h ⟨k⟩
theorem Za2 {p q : Prop} (k : q) (h : Hid q → p := by intro zk; refine rg_q (wn_none rfl) (op_ldw sc_5 ((hr.cons _).cons _) rfl (by omega) rfl) rfl rfl ?_; exact zk.h) : p := h ⟨k⟩
theorem Z90 {p q : Prop} (k : q) (h : Hid q → p := by intro zk; refine rg_q (wn_none rfl) (op_conv32 Try.underlying163 (by rw [Try.underlying5]; rfl) rfl) rfl rfl ?_; exact zk.h) : p := h ⟨k⟩
theorem Za3 {p q : Prop} (k : q) (h : Hid q → p := by intro zk; refine rg_q (wn_none rfl) (op_ld 0 sc_163 rfl rfl (fillA_at (by rw [hml]; omega))) rfl rfl ?_; exact zk.h) : p := h ⟨k⟩
theorem Zo {p q : Prop} (k : q) (h : Hid q → p := by intro zk; refine ei_i rfl rfl (wn_none rfl) (os_q (op_ld 0 sc_163 rfl rfl (fillA_at (by rw [hml]; omega)))) rfl ?_; rintro _ _ ⟨rfl, rfl⟩; refine ⟨[_], rfl, ?_⟩; exact zk.h) : p := h ⟨k⟩
theorem Z91 {p q : Prop} (k : q) (h : Hid q → p := by intro zk; refine ei_i rfl rfl (wn_none rfl) (os_call cb_120 rfl (fun w s => turn_calls (k := 7) _  s (by decide) (by decide))) rfl ?_; rintro _ _ ⟨rfl, rfl⟩; refine ⟨[_], rfl, ?_⟩; exact zk.h) : p := h ⟨k⟩
theorem Z5n {p q : Prop} (k : q) (h : Hid q → p := by intro zk; refine e_q 13 rfl (wn_none rfl) (op_add32 _ _ rfl rfl) ?_; exact zk.h) : p := h ⟨k⟩
theorem Z2h {p q : Prop} (k : q) (h : Hid q → p := by intro zk; refine e_q 18 rfl (wn_none rfl) (op_add32 _ _ rfl rfl) ?_; exact zk.h) : p := h ⟨k⟩
theorem Z62 {p q : Prop} (k : q) (h : Hid q → p := by intro zk; refine ei_i rfl rfl (wn_none rfl) (os_call cb_120 rfl (fun w s => turn_calls (k := 17) _  s (by decide) (by decide))) rfl ?_; rintro _ _ ⟨rfl, rfl⟩; refine ⟨[_], rfl, ?_⟩; exact zk.h) : p := h ⟨k⟩
theorem Z58 {p q : Prop} (k : q) (h : Hid q → p := by intro zk; refine ei_i rfl rfl (wn_none rfl) (os_call cb_120 rfl (fun w s => turn_calls (k := 19) _  s (by decide) (by decide))) rfl ?_; rintro _ _ ⟨rfl, rfl⟩; refine ⟨[_], rfl, ?_⟩; exact zk.h) : p := h ⟨k⟩
theorem Z7g {p q0 q1 : Prop} (k0 : q0) (k1 : q1) (h : Hid q0 → Hid q1 → p := by intro zk0 zk1; refine et_2 (i1 := 4) (i2 := 20) (by kernel_rfl) ?_ ?_; exact zk0.h; exact zk1.h) : p := h ⟨k0⟩ ⟨k1⟩
theorem Z63 {p q0 q1 : Prop} (k0 : q0) (k1 : q1) (h : Hid q0 → Hid q1 → p := by intro zk0 zk1; refine et_2 (i1 := 4) (i2 := 22) (by kernel_rfl) ?_ ?_; exact zk0.h; exact zk1.h) : p := h ⟨k0⟩ ⟨k1⟩
theorem Z7h {a0 : Sort _} {q : ∀ (zz0 : a0), Prop} {p : Prop} (k : ∀ (zz0 : a0), q zz0) (h : Hid (∀ (zz0 : a0), q zz0) → p := by intro zk; refine ei_i rfl rfl (wn_none rfl) (os_alloc (cs := (wC (List.replicate 64 0)).toArray) zB_168 (by kernel_rfl)) rfl ?_; rintro _ _ ⟨zz0, rfl, rfl⟩; refine ⟨[_], rfl, ?_⟩; exact zk.h zz0) : p := h ⟨k⟩
theorem Z1i {a0 : Sort _} {q : ∀ (zz0 : a0), Prop} {p : Prop} (k : ∀ (zz0 : a0), q zz0) (h : Hid (∀ (zz0 : a0), q zz0) → p := by intro zk; refine ei_i rfl rfl (wn_none rfl) (os_alloc (cs := (wC (List.replicate 64 0)).toArray) zB_168 (by kernel_rfl)) rfl ?_; rintro _ _ ⟨zz0, rfl, rfl⟩; refine ⟨[_, _], rfl, ?_⟩; exact zk.h zz0) : p := h ⟨k⟩
theorem Z27 {a0 : Sort _} {q : ∀ (zz0 : a0), Prop} {p : Prop} (k : ∀ (zz0 : a0), q zz0) (h : Hid (∀ (zz0 : a0), q zz0) → p := by intro zk; refine ei_i rfl rfl (wn_none rfl) (os_alloc (cs := (wC (List.replicate 8 0)).toArray) zB_164 (by kernel_rfl)) rfl ?_; rintro _ _ ⟨zz0, rfl, rfl⟩; refine ⟨[_, _, _], rfl, ?_⟩; exact zk.h zz0) : p := h ⟨k⟩
theorem Z28 {p q : Prop} (k : q) (h : Hid q → p := by intro zk; refine ei_iN rfl rfl (wn_none rfl) (os_pull2 (os_storew (wC _) ag_168 rfl rfl (by rw [wC_len]; exact layM_len bs) (wC_one _) (by simp [wC_len, w8C_len]) (Free.zero _))) ?_; rintro _ _ ⟨rfl, rfl⟩; refine ⟨[_, _, _], rfl, ?_⟩; exact zk.h) : p := h ⟨k⟩
theorem Z46 {a0 : Sort _} {q : ∀ (zz0 : a0), Prop} {p : Prop} (k : ∀ (zz0 : a0), q zz0) (h : Hid (∀ (zz0 : a0), q zz0) → p := by intro zk; refine ei_i rfl rfl (wn_none rfl) (os_alloc (cs := (wC (List.replicate 8 0)).toArray) zB_164 (by kernel_rfl)) rfl ?_; rintro _ _ ⟨zz0, rfl, rfl⟩; refine ⟨[_, _], rfl, ?_⟩; exact zk.h zz0) : p := h ⟨k⟩
theorem Z2r {a0 : Sort _} {q : ∀ (zz0 : a0), Prop} {p : Prop} (k : ∀ (zz0 : a0), q zz0) (h : Hid (∀ (zz0 : a0), q zz0) → p := by intro zk; refine ei_i rfl rfl (wn_none rfl) (os_alloc (cs := (wC (List.replicate 64 0)).toArray) zB_168 (by kernel_rfl)) rfl ?_; rintro _ _ ⟨zz0, rfl, rfl⟩; refine ⟨[_, _, _], rfl, ?_⟩; exact zk.h zz0) : p := h ⟨k⟩
theorem Z29 {p q : Prop} (k : q) (h : Hid q → p := by intro zk; refine ei_iN rfl rfl (wn_none rfl) (os_pull1 (os_storew (wC _) ag_168 rfl rfl (by rw [wC_len]; exact layM_len bs) (wC_one _) (by simp [wC_len, w8C_len]) (Free.zero _))) ?_; rintro _ _ ⟨rfl, rfl⟩; refine ⟨[_, _, _], rfl, ?_⟩; exact zk.h) : p := h ⟨k⟩
theorem Z2a {p q : Prop} (k : q) (h : Hid q → p := by intro zk; refine ei_iN rfl rfl (wn_none rfl) (os_storew (wC _) ag_168 rfl rfl (by rw [wC_len]; exact layM_len bs) (wC_one _) (by simp [wC_len, w8C_len]) (Free.zero _)) ?_; rintro _ _ ⟨rfl, rfl⟩; refine ⟨[_, _, _], rfl, ?_⟩; exact zk.h) : p := h ⟨k⟩
theorem Zb1 {a0 : Sort _} {q : ∀ (zz0 : a0), Prop} {p : Prop} (k : ∀ (zz0 : a0), q zz0) (h : Hid (∀ (zz0 : a0), q zz0) → p := by intro zk; refine ei_i rfl rfl (wn_none rfl) (os_alloc (cs := (wC (List.replicate 8 0)).toArray) zB_164 (by kernel_rfl)) rfl ?_; rintro _ _ ⟨zz0, rfl, rfl⟩; refine ⟨[_], rfl, ?_⟩; exact zk.h zz0) : p := h ⟨k⟩
theorem Z7i {p q : Prop} (k : q) (h : Hid q → p := by intro zk; refine ei_i rfl rfl (wn_none rfl) (os_call cb_119 rfl (fun w s => keys_calls  s )) rfl ?_; rintro _ _ ⟨rfl, rfl⟩; refine ⟨[_], rfl, ?_⟩; exact zk.h) : p := h ⟨k⟩
theorem Z7j {p q0 q1 : Prop} (k0 : q0) (k1 : q1) (h : Hid q0 → Hid q1 → p := by intro zk0 zk1; refine et_2 (i1 := 2) (i2 := 9) (by kernel_rfl) ?_ ?_; exact zk0.h; exact zk1.h) : p := h ⟨k0⟩ ⟨k1⟩
theorem Z2n {p q : Prop} (k : q) (h : Hid q → p := by intro zk; refine ei_i rfl rfl (wn_none rfl) (os_call cb_119 rfl (fun w s => keys_calls  s )) rfl ?_; rintro _ _ ⟨rfl, rfl⟩; refine ⟨[_, _], rfl, ?_⟩; exact zk.h) : p := h ⟨k⟩
theorem Z7k {p q0 q1 : Prop} (k0 : q0) (k1 : q1) (h : Hid q0 → Hid q1 → p := by intro zk0 zk1; refine et_2 (i1 := 2) (i2 := 8) (by kernel_rfl) ?_ ?_; exact zk0.h; exact zk1.h) : p := h ⟨k0⟩ ⟨k1⟩
theorem Z7l {p q0 q1 : Prop} (k0 : q0) (k1 : q1) (h : Hid q0 → Hid q1 → p := by intro zk0 zk1; refine et_2 (i1 := 2) (i2 := 7) (by kernel_rfl) ?_ ?_; exact zk0.h; exact zk1.h) : p := h ⟨k0⟩ ⟨k1⟩
theorem Zb2 {p q : Prop} (k : q) (h : Hid q → p := by intro zk; refine ei_i rfl rfl (wn_none rfl) (os_call cb_118 rfl (fun w s => lay_calls _ _ _  s ((hr.cons _).cons _) (by assumption))) rfl ?_; rintro _ _ ⟨rfl, rfl⟩; refine ⟨[_], rfl, ?_⟩; exact zk.h) : p := h ⟨k⟩
theorem Z7m {p q : Prop} (k : q) (h : Hid q → p := by intro zk; refine ei_i rfl rfl (wn_none rfl) (os_call cb_118 rfl (fun w s => lay_calls _ _ _  s (((hr.cons _).cons _).cons _) (by assumption))) rfl ?_; rintro _ _ ⟨rfl, rfl⟩; refine ⟨[_, _], rfl, ?_⟩; exact zk.h) : p := h ⟨k⟩
theorem Z3f {p q : Prop} (k : q) (h : Hid q → p := by intro zk; refine et_1 (i := 1) (by kernel_rfl) ?_; exact zk.h) : p := h ⟨k⟩
theorem Z7n {p q : Prop} (k : q) (h : Hid q → p := by intro zk; refine ei_i rfl rfl (wn_none rfl) (os_call cb_118 rfl (fun w s => lay_calls _ _ _  s ((((hr.cons _).cons _).cons _).cons _) (by assumption))) rfl ?_; rintro _ _ ⟨rfl, rfl⟩; refine ⟨[_, _, _], rfl, ?_⟩; exact zk.h) : p := h ⟨k⟩
theorem Zbz {p q : Prop} (k : q) (h : Hid q → p := by intro zk; refine oN (os_store (v := .int _ _) sc_163 rfl rfl rfl (Nat.ble_eq_true_of_le (by simp [wC_len] <;> omega)) (Free.zero _) (wC_set0 _)) ?_; rintro _ _ ⟨rfl, rfl⟩; exact zk.h) : p := h ⟨k⟩
theorem Z4n {p q : Prop} (k : q) (h : Hid q → p := by intro zk; refine oq (op_move (v := .string _) rfl) ?_; exact zk.h) : p := h ⟨k⟩
theorem Z92 {p q : Prop} (k : q) (h : Hid q → p := by intro zk; refine oN (os_store (v := .slice _ _ _) sc_162 rfl rfl rfl (by simp [stC_len]) (Free.zero _) (stC_s8 _ ⟨_, _, _⟩)) ?_; rintro _ _ ⟨rfl, rfl⟩; exact zk.h) : p := h ⟨k⟩
theorem Z7o {p q : Prop} (k : q) (h : Hid q → p := by intro zk; refine oq (op_ld 0 sc_162 rfl rfl (show (stC _).toArray[8]? = some (.slice bo b.length bc) from stC_a8 _)) ?_; exact zk.h) : p := h ⟨k⟩
theorem Zc0 {p q : Prop} (k : q) (h : Hid q → p := by intro zk; refine oi (os_call cb_115 rfl (fun w s => take_calls _ _ _ _ _  s ((rds_row 0 rfl rfl).take 64) (by rw [List.length_take]; omega))) ?_; rintro _ _ ⟨rfl, rfl⟩; exact zk.h) : p := h ⟨k⟩
theorem Zc1 {a0 : Sort _} {a1 : ∀ (zz0 : a0), Sort _} {q : ∀ (zz0 : a0) (zz1 : a1 zz0), Prop} {p : Prop} (k : ∀ (zz0 : a0) (zz1 : a1 zz0), q zz0 zz1) (h : Hid (∀ (zz0 : a0) (zz1 : a1 zz0), q zz0 zz1) → p := by intro zk; refine ei_i rfl rfl (wn_none rfl) (os_pull2 (os_append (E := encU8) rfl sB_162 zv_5 rfl rfl rfl (fun w s => (rds_row 1 rfl rfl) [] w s) rfl (by rw [hl8]; simp; omega) (by unfold maxLen; rw [hl8]; simp; omega))) rfl ?_; rintro _ _ ⟨zz0, zz1, rfl, rfl⟩; refine ⟨[_, _, _], rfl, ?_⟩; exact zk.h zz0 zz1) : p := h ⟨k⟩
theorem Zc2 {p q : Prop} (k : q) (h : Hid q → p := by intro zk; refine ei_iN rfl rfl (wn_none rfl) (os_pull2 (os_store (v := .slice _ _ _) sc_162 rfl rfl rfl (by simp [stC_len]) (Free.zero _) (stC_s8 _ ⟨_, _, _⟩))) ?_; rintro _ _ ⟨rfl, rfl⟩; refine ⟨[_, _, _], rfl, ?_⟩; exact zk.h) : p := h ⟨k⟩
theorem Z7p {p q : Prop} (k : q) (h : Hid q → p := by intro zk; refine oq (op_mul rfl rfl (by omega) (by omega)) ?_; exact zk.h) : p := h ⟨k⟩
theorem Z93 {p q : Prop} (k : q) (h : Hid q → p := by intro zk; refine oq (op_conv8 Try.underlying5 (by rw [Try.underlying163]; rfl) rfl) ?_; exact zk.h) : p := h ⟨k⟩
theorem Z6k {p q : Prop} (k : q) (h : Hid q → p := by intro zk; refine oq (op_shr_nat (m := 32) rfl rfl (by decide)) ?_; exact zk.h) : p := h ⟨k⟩
theorem Zc3 {p q : Prop} (k : q) (h : Hid q → p := by intro zk; refine px_loop2 (i + 1) (by omega) (by (try dsimp only); omega) ⟨congrArg (fun q : Nat => Value.int .u64 (q : Int)) e1.symm, congrArg (Value.int .i64) (by omega), trivial⟩ ?_ (fun _ s => s); exact zk.h) : p := h ⟨k⟩
theorem Zc4 {p q : Prop} (k : q) (h : Hid q → p := by intro zk; refine px_loop2 (j + 1) (by omega) (by (try dsimp only); omega) ⟨congrArg Value.bool (by rw [e1, hb3]; first | exact decide_eq_decide.2 (not_congr Int.natCast_eq_zero) | (rw [Bool.true_and]; exact decide_eq_decide.2 (not_congr Int.natCast_eq_zero)) | simp), congrArg (Value.int .i64) (by simp), trivial⟩ ?_ (fun _ s => s); exact zk.h) : p := h ⟨k⟩
theorem Z94 {p q : Prop} (k : q) (h : Hid q → p := by intro zk; refine ei_i rfl rfl (wn_none rfl) (os_call cb_114 rfl (fun w s => right_calls (k := 7) _  s (by decide) (by decide))) rfl ?_; rintro _ _ ⟨rfl, rfl⟩; refine ⟨[_], rfl, ?_⟩; exact zk.h) : p := h ⟨k⟩
theorem Z64 {p q : Prop} (k : q) (h : Hid q → p := by intro zk; refine ei_i rfl rfl (wn_none rfl) (os_call cb_114 rfl (fun w s => right_calls (k := 17) _  s (by decide) (by decide))) rfl ?_; rintro _ _ ⟨rfl, rfl⟩; refine ⟨[_], rfl, ?_⟩; exact zk.h) : p := h ⟨k⟩
theorem Z59 {p q : Prop} (k : q) (h : Hid q → p := by intro zk; refine ei_i rfl rfl (wn_none rfl) (os_call cb_114 rfl (fun w s => right_calls (k := 19) _  s (by decide) (by decide))) rfl ?_; rintro _ _ ⟨rfl, rfl⟩; refine ⟨[_], rfl, ?_⟩; exact zk.h) : p := h ⟨k⟩
theorem Z65 {p q : Prop} (k : q) (h : Hid q → p := by intro zk; refine rg_q (wn_none rfl) (op_ld 3 sc_163 rfl rfl (wC_gd (ws := h.1) (by rw [h.2]; decide))) rfl rfl ?_; exact zk.h) : p := h ⟨k⟩
theorem Z66 {p q : Prop} (k : q) (h : Hid q → p := by intro zk; refine oq (op_ld 3 sc_163 rfl rfl (wC_gd (ws := h.1) (by rw [h.2]; decide))) ?_; exact zk.h) : p := h ⟨k⟩
theorem Za4 {p q : Prop} (k : q) (h : Hid q → p := by intro zk; refine oq (op_lda (L := cfgC _) 1 ag_65 rfl rfl (cfgC_ta _) (by simp [cfgC_len])) ?_; exact zk.h) : p := h ⟨k⟩
theorem Z95 {p q : Prop} (k : q) (h : Hid q → p := by intro zk; refine cd_draw (M := []) mx [5] (by kernel_rfl) ?_; exact zk.h) : p := h ⟨k⟩
theorem Za5 {p q : Prop} (k : q) (h : Hid q → p := by intro zk; refine rg_q (wn_none rfl) (op_field fld_131_1 rfl) rfl rfl ?_; exact zk.h) : p := h ⟨k⟩
theorem Za6 {p q : Prop} (k : q) (h : Hid q → p := by intro zk; refine rg_q (wn_none rfl) (op_field fld_131_2 rfl) rfl rfl ?_; exact zk.h) : p := h ⟨k⟩
theorem Za7 {p q : Prop} (k : q) (h : Hid q → p := by intro zk; refine rg_q (wn_none rfl) (op_ld 1 sc_27 rfl rfl rfl) rfl rfl ?_; exact zk.h) : p := h ⟨k⟩
theorem Z67 {p q : Prop} (k : q) (h : Hid q → p := by intro zk; refine oq (op_eqnil Try.underlying67 rfl rfl) ?_; exact zk.h) : p := h ⟨k⟩
theorem Zc5 {p q : Prop} (k : q) (h : Hid q → p := by intro zk; refine ei_i rfl rfl (wn_none rfl) (os_back (os_pull2 (os_call cb_31 rfl (fun w s => Place_calls _ _ _  s ))) (fun _ s => (((((s.pull 4).pull 4).pull 2).pull 4).pull 4))) rfl ?_; rintro _ _ ⟨rfl, rfl⟩; refine ⟨[], rfl, ?_⟩; exact zk.h) : p := h ⟨k⟩
theorem Z7q {p q : Prop} (k : q) (h : Hid q → p := by intro zk; refine e_q 12 rfl (wn_none rfl) (op_move (v := .tuple _) rfl) ?_; exact zk.h) : p := h ⟨k⟩
theorem Z7r {p q : Prop} (k : q) (h : Hid q → p := by intro zk; refine e_q 13 rfl (wn_none rfl) (op_extract (v := .agg _) rfl rfl) ?_; exact zk.h) : p := h ⟨k⟩
theorem Z7s {p q : Prop} (k : q) (h : Hid q → p := by intro zk; refine e_q 14 rfl (wn_none rfl) (op_extract (v := .bool _) rfl rfl) ?_; exact zk.h) : p := h ⟨k⟩
theorem Z7t {a0 : Sort _} {q : ∀ (zz0 : a0), Prop} {p : Prop} (k : ∀ (zz0 : a0), q zz0) (h : Hid (∀ (zz0 : a0), q zz0) → p := by intro zk; refine ei_i rfl rfl (wn_none rfl) (os_alloc (cs := (nodeC Node.zero).toArray) zB_51 (by kernel_rfl)) rfl ?_; rintro _ _ ⟨zz0, rfl, rfl⟩; refine ⟨[_], rfl, ?_⟩; exact zk.h zz0) : p := h ⟨k⟩
theorem Z7u {p q : Prop} (k : q) (h : Hid q → p := by intro zk; refine ei_iN rfl rfl (wn_none rfl) (os_storew (nodeC _) ag_51 rfl rfl (nodeC_len _) (nodeC_one _) (by simp [nodeC_len]) (Free.zero _)) ?_; rintro _ _ ⟨rfl, rfl⟩; refine ⟨[_], rfl, ?_⟩; exact zk.h) : p := h ⟨k⟩
theorem Z7v {p q : Prop} (k : q) (h : Hid q → p := by intro zk; refine e_q 17 rfl (wn_none rfl) (op_assign (v := .bool _) rfl) ?_; exact zk.h) : p := h ⟨k⟩
theorem Z7w {p : Prop} (h : p := by exact px_ret1 rfl (v := .int _ _) rfl (fun _ s => ((s.del 1).del 0)) ⟨rfl, rfl⟩) : p := h
theorem Zc6 {p q : Prop} (k : q) (h : Hid q → p := by intro zk; refine ei_i rfl rfl (wn_none rfl) (os_back (os_pull3 (os_call cb_31 rfl (fun w s => Place_calls _ _ _  s ))) (fun _ s => ((((((s.pull 5).pull 5).pull 2).pull 5).pull 5).pull 5))) rfl ?_; rintro _ _ ⟨rfl, rfl⟩; refine ⟨[_], rfl, ?_⟩; exact zk.h) : p := h ⟨k⟩
theorem Zb3 {p q : Prop} (k : q) (h : Hid q → p := by intro zk; refine ei_i rfl rfl (wn_none rfl) (os_back (os_pull5 (os_call cb_41 rfl (fun w s => TVote_calls _ _ _  s ))) (fun _ s => (((((s.pull 5).pull 5).pull 5).pull 5).pull 5))) rfl ?_; rintro _ _ ⟨rfl, rfl⟩; refine ⟨[], rfl, ?_⟩; exact zk.h) : p := h ⟨k⟩
theorem Z7x {p q : Prop} (k : q) (h : Hid q → p := by intro zk; refine e_q 7 rfl (wn_none rfl) (op_move (v := .tuple _) rfl) ?_; exact zk.h) : p := h ⟨k⟩
theorem Z7y {p q : Prop} (k : q) (h : Hid q → p := by intro zk; refine e_q 8 rfl (wn_none rfl) (op_extract (v := .agg _) rfl rfl) ?_; exact zk.h) : p := h ⟨k⟩
theorem Z7z {p q : Prop} (k : q) (h : Hid q → p := by intro zk; refine e_q 9 rfl (wn_none rfl) (op_extract (v := .bool _) rfl rfl) ?_; exact zk.h) : p := h ⟨k⟩
theorem Z80 {a0 : Sort _} {q : ∀ (zz0 : a0), Prop} {p : Prop} (k : ∀ (zz0 : a0), q zz0) (h : Hid (∀ (zz0 : a0), q zz0) → p := by intro zk; refine ei_i rfl rfl (wn_none rfl) (os_alloc (cs := (voteC Vote.zero).toArray) zB_84 (by kernel_rfl)) rfl ?_; rintro _ _ ⟨zz0, rfl, rfl⟩; refine ⟨[_], rfl, ?_⟩; exact zk.h zz0) : p := h ⟨k⟩
theorem Z81 {p q : Prop} (k : q) (h : Hid q → p := by intro zk; refine ei_iN rfl rfl (wn_none rfl) (os_storew (voteC _) ag_84 rfl rfl (voteC_len _) (voteC_one _) (by simp [voteC_len]) (Free.zero _)) ?_; rintro _ _ ⟨rfl, rfl⟩; refine ⟨[_], rfl, ?_⟩; exact zk.h) : p := h ⟨k⟩
theorem Z82 {p q : Prop} (k : q) (h : Hid q → p := by intro zk; refine e_q 12 rfl (wn_none rfl) (op_assign (v := .bool _) rfl) ?_; exact zk.h) : p := h ⟨k⟩
theorem Z83 {p q : Prop} (k : q) (h : Hid q → p := by intro zk; refine oq (op_lda (L := rootC _) 0 ag_24 rfl rfl (voteC_af2 _) (by simp [voteC_len])) ?_; exact zk.h) : p := h ⟨k⟩
theorem Z84 {p q : Prop} (k : q) (h : Hid q → p := by intro zk; refine rg_q (wn_none rfl) (op_field fld_131_3 rfl) rfl rfl ?_; exact zk.h) : p := h ⟨k⟩
theorem Z85 {p q : Prop} (k : q) (h : Hid q → p := by intro zk; refine rg_q (wn_none rfl) (op_ld 0 sc_79 rfl rfl rfl) rfl rfl ?_; exact zk.h) : p := h ⟨k⟩
theorem Z86 {p q : Prop} (k : q) (h : Hid q → p := by intro zk; refine rg_i (wn_none rfl) (os_call cb_74 rfl (fun w s => Take_calls _ _ _  s )) rfl rfl ?_; rintro _ _ ⟨rfl, rfl⟩; refine ⟨[_], rfl, ?_⟩; exact zk.h) : p := h ⟨k⟩
theorem Z87 {p q : Prop} (k : q) (h : Hid q → p := by intro zk; refine cd_draw (M := [_, _, _]) mx [8, 9] (by kernel_rfl) ?_; exact zk.h) : p := h ⟨k⟩
theorem Z88 {p q : Prop} (k : q) (h : Hid q → p := by intro zk; refine rg_i (wn_none rfl) (os_pull1 (os_pull2 (os_call cb_75 rfl (fun w s => put_calls _ _ _ _ _ _ _ _ _ _ _ _ _ _ _ _ _ _ _ _ _ _  s (Nat.le_of_eq (htp.1 h0).2.2) (htp.1 h0).2.1)))) rfl rfl ?_; rintro _ _ ⟨rfl, rfl⟩; refine ⟨[_, _, _], rfl, ?_⟩; exact zk.h) : p := h ⟨k⟩
theorem Z47 {p : Prop} (h : p := by exact px_ret1 rfl (v := .int _ _) rfl (fun _ s => (((s.del 6).del 5).del 4)) ⟨rfl, rfl⟩) : p := h
theorem Z89 {p : Prop} (h : p := by exact px_ret1 rfl (v := .int _ _) rfl (fun _ s => ((((((s.del 4).del 3).del 2).pull 3).pull 3).pull 3)) ⟨rfl, rfl⟩) : p := h
theorem Zb4 {p q : Prop} (k : q) (h : Hid q → p := by intro zk; refine ei_i rfl rfl (wn_none rfl) (os_back (os_pull6 (os_call cb_41 rfl (fun w s => TVote_calls _ _ _  s ))) (fun _ s => ((((((s.pull 6).pull 6).pull 6).pull 6).pull 6).pull 6))) rfl ?_; rintro _ _ ⟨rfl, rfl⟩; refine ⟨[_], rfl, ?_⟩; exact zk.h) : p := h ⟨k⟩
theorem Z68 {p q : Prop} (k : q) (h : Hid q → p := by intro zk; refine rg_q (wn_none rfl) (op_extract (v := .pointer _) rfl rfl) rfl rfl ?_; exact zk.h) : p := h ⟨k⟩
theorem Z96 {p q : Prop} (k : q) (h : Hid q → p := by intro zk; refine rg_q (wn_none rfl) (op_field fld_47_0 rfl) rfl rfl ?_; exact zk.h) : p := h ⟨k⟩
theorem Z8a {p q : Prop} (k : q) (h : Hid q → p := by intro zk; refine rg_q (wn_none rfl) (op_ld 1 sc_45 rfl rfl rfl) rfl rfl ?_; exact zk.h) : p := h ⟨k⟩
theorem Zb5 {a0 : Sort _} {a1 : ∀ (zz0 : a0), Sort _} {q : ∀ (zz0 : a0) (zz1 : a1 zz0), Prop} {p : Prop} (k : ∀ (zz0 : a0) (zz1 : a1 zz0), q zz0 zz1) (h : Hid (∀ (zz0 : a0) (zz1 : a1 zz0), q zz0 zz1) → p := by intro zk; refine rg_i (wn_none rfl) (os_pull1 (os_append (E := encRoot) rfl sB_37 zv_24 rfl rfl rfl (fun w s => (rds_row 1 rfl rfl) [] w s) rfl (by simp; have := rk_le t.nodes a i; have := (rfl : (prR t.nodes a i).length = _); simp [prR, prS, prP, prOm] at *; unfold rk at *; omega) (by unfold maxLen; simp; have := rk_le t.nodes a i; have := (rfl : (prR t.nodes a i).length = _); simp [prR, prS, prP, prOm] at *; unfold rk at *; omega))) rfl rfl ?_; rintro _ _ ⟨zz0, zz1, rfl, rfl⟩; refine ⟨[_, _], rfl, ?_⟩; exact zk.h zz0 zz1) : p := h ⟨k⟩
theorem Zc7 {a0 : Sort _} {a1 : ∀ (zz0 : a0), Sort _} {q : ∀ (zz0 : a0) (zz1 : a1 zz0), Prop} {p : Prop} (k : ∀ (zz0 : a0) (zz1 : a1 zz0), q zz0 zz1) (h : Hid (∀ (zz0 : a0) (zz1 : a1 zz0), q zz0 zz1) → p := by intro zk; refine oi (os_append (E := encI64) rfl sB_42 zv_3 rfl rfl rfl (fun w s => (rds_row 1 rfl rfl) [] w s) rfl (by simp; have := rk_le t.nodes a i; have := (rfl : (prR t.nodes a i).length = _); simp [prR, prS, prP, prOm] at *; unfold rk at *; omega) (by unfold maxLen; simp; have := rk_le t.nodes a i; have := (rfl : (prR t.nodes a i).length = _); simp [prR, prS, prP, prOm] at *; unfold rk at *; omega)) ?_; rintro _ _ ⟨zz0, zz1, rfl, rfl⟩; exact zk.h zz0 zz1) : p := h ⟨k⟩
theorem Za8 {p q : Prop} (k : q) (h : Hid q → p := by intro zk; refine rg_q (wn_none rfl) (op_field fld_127_1 rfl) rfl rfl ?_; exact zk.h) : p := h ⟨k⟩
theorem Zc8 {p : Prop} (h : p := by exact px_ret1 rfl (v := .int _ _) (l' := Blk pm (.cells #[.slice ao xs.length c, .int .i64 n1, .int .i64 n2, .int .i64 n3, .int .i64 n4, .int .i64 n5, .int .i64 n6, .int .i64 n7, .int .i64 n8, .int .i64 n9, .int .i64 n10, .int .i64 n11, .pointer (some ⟨pr, 0, none⟩), .pointer (some ⟨pq, 0, none⟩)] 127 (0, 0)) :: RTreeObj pr t :: RTabObj pq tb :: l) rfl (fun _ s => ((Sat.rtreeMk hw hR rfl rfl rfl (s.del 4)).pull 1)) ⟨rfl, rfl⟩) : p := h
theorem Za9 {p q : Prop} (k : q) (h : Hid q → p := by intro zk; refine ei_i rfl rfl (wn_none rfl) (os_call cb_67 rfl (fun w s => bname_calls _ _ _ _ _ _ _ _ _ _ _ _ _ _ _  s (((((((((hr.cons _).cons _).cons _).cons _).cons _).cons _).cons _).cons _).cons _) (by first | assumption | omega) (by assumption))) rfl ?_; rintro _ _ ⟨rfl, rfl⟩; refine ⟨[_, _, _, _, _], rfl, ?_⟩; exact zk.h) : p := h ⟨k⟩
theorem Zc9 {p q : Prop} (k : q) (h : Hid q → p := by intro zk; refine ei_i rfl rfl (wn_none rfl) (os_pull1 (os_pull2 (os_pull3 (os_call cb_64 rfl (fun w s => BAdd_calls _ _ _ _ _ _ _ _ _ _ _ _ _ _ _ _ _ _ _ _ _ _ _  s (by assumption) (by assumption) (((((hr.cons _).cons _).cons _).cons _).cons _)))))) rfl ?_; rintro _ _ ⟨rfl, rfl⟩; refine ⟨[_, _, _, _, _], rfl, ?_⟩; exact zk.h) : p := h ⟨k⟩
theorem Zca {p q : Prop} (k : q) (h : Hid q → p := by intro zk; refine ei_i rfl rfl (wn_none rfl) (os_pull4 (os_call cb_48 rfl (fun w s => RAdd_calls _ _ _ _ _  s ))) rfl ?_; rintro _ _ ⟨rfl, rfl⟩; refine ⟨[_, _, _, _, _], rfl, ?_⟩; exact zk.h) : p := h ⟨k⟩
theorem Zcb {p : Prop} (h : p := by exact px_ret1 rfl (v := .bool _) rfl (fun _ s => (((((((((s.del 6).del 5).pull 6).pull 1).pull 6).pull 6).pull 6).pull 6).pull 6)) ⟨_, _, _, congrArg Value.bool (by simp), rfl⟩) : p := h
theorem Zcc {p q : Prop} (k : q) (h : Hid q → p := by intro zk; refine oq (op_build (L := voteC _) (vs := [(0, .int _ _), (1, .int _ _), (2, .agg (rootC _).toArray)]) bB_84 rfl ⟨⟨rfl, by rw [voteC_len]; rfl⟩, ⟨rfl, by rw [voteC_len]; rfl⟩, ⟨by simp [Value.cells, rootC_len], by rw [voteC_len]; rfl⟩, trivial⟩ ((voteC_b0 _ _ _).trans ((voteC_b1 _ _ _).trans ((voteC_b2 _ _ _).trans rfl)))) ?_; exact zk.h) : p := h ⟨k⟩
theorem Zaa {p q : Prop} (k : q) (h : Hid q → p := by intro zk; refine rg_q (wn_none rfl) (op_lda (L := voteC _) 0 ag_84 rfl rfl (voteC_ta _) (by simp [voteC_len])) rfl rfl ?_; exact zk.h) : p := h ⟨k⟩
theorem Zcd {p q : Prop} (k : q) (h : Hid q → p := by intro zk; refine rg_i (wn_none rfl) (os_pull1 (os_pull2 (os_pull3 (os_call cb_43 rfl (fun w s => BTake_calls _ _ _ _ _ _ _ _ _ _ _ _ _ _ _ _ _ _ _ _ _  s (by assumption) (by assumption) ((((((hr.cons _).cons _).cons _).cons _).cons _).cons _)))))) rfl rfl ?_; rintro _ _ ⟨rfl, rfl⟩; refine ⟨[_, _, _, _, _, _, _], rfl, ?_⟩; exact zk.h) : p := h ⟨k⟩
theorem Zce {p q : Prop} (k : q) (h : Hid q → p := by intro zk; refine rg_i (wn_none rfl) (os_pull4 (os_pull5 (os_pull6 (os_call cb_68 rfl (fun w s => RBTake_calls _ _ _ _ _ _ _ _ _ _ _ _ _ _ _ _ _ _ _ _  s ))))) rfl rfl ?_; rintro _ _ ⟨rfl, rfl⟩; refine ⟨[_, _, _, _, _, _, _], rfl, ?_⟩; exact zk.h) : p := h ⟨k⟩
theorem Z8b {p q : Prop} (k : q) (h : Hid q → p := by intro zk; refine rg_q (wn_none rfl) (op_eq rfl rfl) rfl rfl ?_; exact zk.h) : p := h ⟨k⟩
theorem Zcf {p : Prop} (h : p := by exact px_ret1 rfl (v := .bool _) rfl (fun _ s => ((((((((((s.del 9).del 8).del 7).pull 2).pull 2).pull 2).pull 6).pull 6).pull 6).pull 6)) ⟨_, _, _, congrArg Value.bool (by simp), rfl⟩) : p := h
theorem Zab {p q : Prop} (k : q) (h : Hid q → p := by intro zk; refine cd_draw (M := [_, _, _, _, _]) mx [2, 5] (by kernel_rfl) ?_; exact zk.h) : p := h ⟨k⟩
theorem Zcg {p q : Prop} (k : q) (h : Hid q → p := by intro zk; refine rg_i (wn_none rfl) (os_pull1 (os_pull2 (os_call cb_44 rfl (fun w s => BKeepN_calls _ _ _ _ _ _ _ _ _ _ _ _ _ _ _ _ _ _ _ _ _  s (by assumption) (by assumption))))) rfl rfl ?_; rintro _ _ ⟨rfl, rfl⟩; refine ⟨[_, _, _, _, _], rfl, ?_⟩; exact zk.h) : p := h ⟨k⟩
theorem Zch {p q : Prop} (k : q) (h : Hid q → p := by intro zk; refine rg_i (wn_none rfl) (os_pull3 (os_pull4 (os_call cb_69 rfl (fun w s => RBKeepN_calls _ _ _ _ _ _ _ _ _ _ _ _ _ _ _ _ _ _ _  s (by assumption))))) rfl rfl ?_; rintro _ _ ⟨rfl, rfl⟩; refine ⟨[_, _, _, _, _], rfl, ?_⟩; exact zk.h) : p := h ⟨k⟩
theorem Zac {p : Prop} (h : p := by exact px_ret1 rfl (v := .bool _) rfl (fun _ s => (((((((((s.del 6).del 5).pull 6).pull 2).pull 2).pull 6).pull 6).pull 6).pull 6)) ⟨_, _, _, congrArg Value.bool (by simp), rfl⟩) : p := h
theorem Zci {a0 : Sort _} {a1 : ∀ (zz0 : a0), Sort _} {q : ∀ (zz0 : a0) (zz1 : a1 zz0), Prop} {p : Prop} (k : ∀ (zz0 : a0) (zz1 : a1 zz0), q zz0 zz1) (h : Hid (∀ (zz0 : a0) (zz1 : a1 zz0), q zz0 zz1) → p := by intro zk; refine rg_i (wn_none rfl) (os_pull1 (os_pull2 (os_call cb_44 rfl (fun w s => BKeepS_calls _ _ _ _ _ _ _ _ _ _ _ _ _ _ _ _ _ _ _ _ _ _  s (by assumption) (by assumption))))) rfl rfl ?_; rintro _ _ ⟨zz0, zz1, rfl, rfl⟩; refine ⟨[_, _, _, _, _], rfl, ?_⟩; exact zk.h zz0 zz1) : p := h ⟨k⟩
theorem Zcj {a0 : Sort _} {q : ∀ (zz0 : a0), Prop} {p : Prop} (k : ∀ (zz0 : a0), q zz0) (h : Hid (∀ (zz0 : a0), q zz0) → p := by intro zk; refine rg_i (wn_none rfl) (os_pull3 (os_pull4 (os_call cb_69 rfl (fun w s => RBKeepS_calls _ _ _ _ _ _ _ _ _ _ _ _ _ _ _ _ _ _ _ _  s (by assumption))))) rfl rfl ?_; rintro _ _ ⟨zz0, rfl, rfl⟩; refine ⟨[_, _, _, _, _], rfl, ?_⟩; exact zk.h zz0) : p := h ⟨k⟩
theorem Zck {p q : Prop} (k : q) (h : Hid q → p := by intro zk; refine rg_i (wn_none rfl) (os_call cb_71 rfl (fun w s => RForget_calls _ _ _  s (by omega))) rfl rfl ?_; rintro _ _ ⟨rfl, rfl⟩; refine ⟨[_], rfl, ?_⟩; exact zk.h) : p := h ⟨k⟩
theorem Zcl {p : Prop} (h : p := by exact px_ret1 rfl (v := .bool _) rfl (fun _ s => ((((((((s.del 4).del 3).pull 6).pull 6).pull 4).pull 6).pull 6).pull 6)) ⟨_, _, _, congrArg Value.bool (by simp), rfl⟩) : p := h
theorem Z6l {p q : Prop} (k : q) (h : Hid q → p := by intro zk; refine e_q 4 rfl (wn_none rfl) (op_move (v := .bool _) rfl) ?_; exact zk.h) : p := h ⟨k⟩
theorem Zad {p q : Prop} (k : q) (h : Hid q → p := by intro zk; refine oi (os_call cb_36 rfl (fun w s => BTree_calls _ _ _ _ _ _ _ _ _ _ _ _ _ _ _ _ _ _  s )) ?_; rintro _ _ ⟨rfl, rfl⟩; exact zk.h) : p := h ⟨k⟩
theorem Zae {p q : Prop} (k : q) (h : Hid q → p := by intro zk; refine e_q 2 rfl (wn_none rfl) (op_lda (L := rootC _) 5 ag_24 rfl rfl (rootC_take' _) (by simp [rootC_len])) ?_; exact zk.h) : p := h ⟨k⟩
theorem Zcm {p q : Prop} (k : q) (h : Hid q → p := by intro zk; refine ei_i rfl rfl (wn_none rfl) (os_back (os_pull2 (os_pull2 (os_pull2 (os_call cb_38 rfl (fun w s => BHead_calls _ _ _ _ _ _ _ _ _ _ _ _ _ _ _ _ _ _ _ _  s (Nat.le_of_eq (ownE_len _ _ _)) (by rw [ownE_len]; exact hN02)))))) (fun _ s => (((s.push 2).push 2).push 2))) rfl ?_; rintro _ _ ⟨rfl, rfl⟩; refine ⟨[], rfl, ?_⟩; exact zk.h) : p := h ⟨k⟩
theorem Z8c {p q : Prop} (k : q) (h : Hid q → p := by intro zk; refine e_q 3 rfl (wn_none rfl) (op_neroot _ _ rB_24 rfl rfl) ?_; exact zk.h) : p := h ⟨k⟩
theorem Zcn {p q : Prop} (k : q) (h : Hid q → p := by intro zk; refine px_loop2 (i + 1, qt2, qw2, qr2) (by dsimp only; omega) (by (try dsimp only); omega) ⟨congrArg (Value.int .i64) (by simp), trivial⟩ ?_ (fun _ s => (((s.del 9).del 5).del 4)); exact zk.h) : p := h ⟨k⟩
theorem Zco {p q : Prop} (k : q) (h : Hid q → p := by intro zk; refine ei_i rfl rfl (wn_none rfl) (os_back (os_pull3 (os_pull2 (os_pull3 (os_call cb_38 rfl (fun w s => BHead_calls _ _ _ _ _ _ _ _ _ _ _ _ _ _ _ _ _ _ _ _  s (Nat.le_of_eq (ownE_len _ _ _)) (by rw [ownE_len]; exact hN02)))))) (fun _ s => (((s.push 3).push 2).push 3))) rfl ?_; rintro _ _ ⟨rfl, rfl⟩; refine ⟨[], rfl, ?_⟩; exact zk.h) : p := h ⟨k⟩
theorem Zaf {p q : Prop} (k : q) (h : Hid q → p := by intro zk; refine px_loop2 (i + 1, qt2, qw2, qr2) (by dsimp only; omega) (by (try dsimp only); omega) ⟨congrArg (Value.int .i64) (by simp), trivial⟩ ?_ (fun _ s => (((s.del 11).del 10).del 9)); exact zk.h) : p := h ⟨k⟩
theorem Z4o {p q : Prop} (k : q) (h : Hid q → p := by intro zk; refine ol_skip (wn_some rfl rfl rfl hb14 rfl) rfl ?_; exact zk.h) : p := h ⟨k⟩
theorem Zcp {p q : Prop} (k : q) (h : Hid q → p := by intro zk; refine ei_i rfl rfl (wn_none rfl) (os_back (os_pull5 (os_pull2 (os_pull3 (os_call cb_38 rfl (fun w s => BHead_calls _ _ _ _ _ _ _ _ _ _ _ _ _ _ _ _ _ _ _ _  s (Nat.le_of_eq (ownE_len _ _ _)) (by rw [ownE_len]; exact hN02)))))) (fun _ s => (((s.push 3).push 2).push 5))) rfl ?_; rintro _ _ ⟨rfl, rfl⟩; refine ⟨[], rfl, ?_⟩; exact zk.h) : p := h ⟨k⟩
theorem Z8 {p q : Prop} (k : q) (h : Hid q → p := by intro zk; refine Zq ?_; refine Z1 ?_; exact zk.h) : p := h ⟨k⟩
theorem Z15 {p q : Prop} (k : q) (h : Hid q → p := by intro zk; refine Z7 ?_; refine Z0 ?_; exact zk.h) : p := h ⟨k⟩
theorem Za {p q : Prop} (k : q) (h : Hid q → p := by intro zk; refine cd_skip ?_; refine px_then ?_; exact zk.h) : p := h ⟨k⟩
theorem Zb {p q : Prop} (k : q) (h : Hid q → p := by intro zk; refine oq (op_assign (v := .bool _) rfl) ?_; refine Z1 ?_; exact zk.h) : p := h ⟨k⟩
theorem Z97 {p q : Prop} (k : q) (h : Hid q → p := by intro zk; refine px_blockN ?_; refine px_then ?_; exact zk.h) : p := h ⟨k⟩
theorem Zp {p q : Prop} (k : q) (h : Hid q → p := by intro zk; refine Z8 ?_; refine cd_ret ?_; exact zk.h) : p := h ⟨k⟩
theorem Zag {p q : Prop} (k : q) (h : Hid q → p := by intro zk; refine Z97 ?_; refine Z1b ?_; exact zk.h) : p := h ⟨k⟩
theorem Z18 {p q : Prop} (k : q) (h : Hid q → p := by intro zk; refine Z0 ?_; refine Z4 ?_; exact zk.h) : p := h ⟨k⟩
theorem Zn {p q : Prop} (k : q) (h : Hid q → p := by intro zk; refine Za ?_; refine Z7 ?_; exact zk.h) : p := h ⟨k⟩
theorem Zdd {p q : Prop} (k : q) (h : Hid q → p := by intro zk; refine Z6e ?_; refine ei_iN rfl rfl (wn_none rfl) (os_pull4 (os_store (v := .slice _ _ _) sc_42 rfl rfl rfl rfl (Free.zero _) rfl)) ?_; rintro _ _ ⟨rfl, rfl⟩; refine ⟨[_, _, _, _, _], rfl, ?_⟩; exact zk.h) : p := h ⟨k⟩
theorem Zcq {p q : Prop} (k : q) (h : Hid q → p := by intro zk; refine Zdd ?_; refine e_q 17 rfl (wn_none rfl) (op_nilck rfl) ?_; exact zk.h) : p := h ⟨k⟩
theorem Zde {p q : Prop} (k : q) (h : Hid q → p := by intro zk; refine et_1 (i := 19) (by kernel_rfl) ?_; refine ei_iN rfl rfl (wn_none rfl) (os_store (v := .slice _ _ _) sc_42 rfl rfl rfl rfl (Free.zero _) rfl) ?_; rintro _ _ ⟨rfl, rfl⟩; refine ⟨[_, _, _, _, _], rfl, ?_⟩; exact zk.h) : p := h ⟨k⟩
theorem Zcr {p q : Prop} (k : q) (h : Hid q → p := by intro zk; refine Zde ?_; refine et_nil (by kernel_rfl) ?_; exact zk.h) : p := h ⟨k⟩
theorem Z6 {p q : Prop} (k : q) (h : Hid q → p := by intro zk; refine Zd ?_; refine Z9e ?_; exact zk.h) : p := h ⟨k⟩
theorem Zah {p q : Prop} (k : q) (h : Hid q → p := by intro zk; refine oq (op_add rfl rfl (by omega) (by omega)) ?_; refine Z4 ?_; exact zk.h) : p := h ⟨k⟩
theorem Zg {p q : Prop} (k : q) (h : Hid q → p := by intro zk; refine Z0 ?_; refine Z1p ?_; exact zk.h) : p := h ⟨k⟩
theorem Zb6 {p q : Prop} (k : q) (h : Hid q → p := by intro zk; refine Zah ?_; refine ol_nil ?_; exact zk.h) : p := h ⟨k⟩
theorem Z5o {p q : Prop} (k : q) (h : Hid q → p := by intro zk; refine Zag ?_; refine Zb6 ?_; exact zk.h) : p := h ⟨k⟩
theorem Zk {p q : Prop} (k : q) (h : Hid q → p := by intro zk; refine Zb ?_; refine cd_ret ?_; exact zk.h) : p := h ⟨k⟩
theorem Zf {p q : Prop} (k : q) (h : Hid q → p := by intro zk; refine Z15 ?_; refine Z4 ?_; exact zk.h) : p := h ⟨k⟩
theorem Zdf {p q : Prop} (k : q) (h : Hid q → p := by intro zk; refine Z24 ?_; refine ei_iN rfl rfl (wn_none rfl) (os_pull2 (os_storew (wC _) ag_164 rfl rfl (by rw [wC_len]; exact q.w.2) (wC_one _) (by simp [wC_len, w8C_len]) (Free.zero _))) ?_; rintro _ _ ⟨rfl, rfl⟩; refine ⟨[_, _, _], rfl, ?_⟩; exact zk.h) : p := h ⟨k⟩
theorem Zcs {p q : Prop} (k : q) (h : Hid q → p := by intro zk; refine Zdf ?_; refine et_nil (by kernel_rfl) ?_; exact zk.h) : p := h ⟨k⟩
theorem Z1c {p q : Prop} (k : q) (h : Hid q → p := by intro zk; refine Z0 ?_; refine Zp ?_; exact zk.h) : p := h ⟨k⟩
theorem Z2o {p q : Prop} (k : q) (h : Hid q → p := by intro zk; refine px_blockR ?_; refine Z13 ?_; exact zk.h) : p := h ⟨k⟩
theorem Z2i {p q : Prop} (k : q) (h : Hid q → p := by intro zk; refine e_q 23 rfl (wn_none rfl) (op_xor32 _ _ rfl rfl) ?_; refine e_q 26 rfl (wn_none rfl) (op_xor32 _ _ rfl rfl) ?_; exact zk.h) : p := h ⟨k⟩
theorem Zai {p q : Prop} (k : q) (h : Hid q → p := by intro zk; refine px_thenE ?_; refine px_blockE ?_; exact zk.h) : p := h ⟨k⟩
theorem Z2s {p q : Prop} (k : q) (h : Hid q → p := by intro zk; refine Zq ?_; refine ol_nil ?_; exact zk.h) : p := h ⟨k⟩
theorem Zct {p q : Prop} (k : q) (h : Hid q → p := by intro zk; refine px_thenE ?_; refine Zai ?_; exact zk.h) : p := h ⟨k⟩
theorem Z6m {p q : Prop} (k : q) (h : Hid q → p := by intro zk; refine cd_exit ?_; refine Zct ?_; exact zk.h) : p := h ⟨k⟩
theorem Zj {a0 : Sort _} {q : ∀ (zz0 : a0), Prop} {p : Prop} (k : ∀ (zz0 : a0), q zz0) (h : Hid (∀ (zz0 : a0), q zz0) → p := by intro zk; refine Z0 ?_; refine Z2f ?_; intro zz0; exact zk.h zz0) : p := h ⟨k⟩
theorem Z4p {p q : Prop} (k : q) (h : Hid q → p := by intro zk; refine Zag ?_; refine Z4 ?_; exact zk.h) : p := h ⟨k⟩
theorem Z39 {p q : Prop} (k : q) (h : Hid q → p := by intro zk; refine Z1 ?_; refine Z7 ?_; exact zk.h) : p := h ⟨k⟩
theorem Z3g {p q : Prop} (k : q) (h : Hid q → p := by intro zk; refine Zn ?_; refine cd_block ?_; exact zk.h) : p := h ⟨k⟩
theorem Z1e {p q : Prop} (k : q) (h : Hid q → p := by intro zk; refine Z6m ?_; refine px_then ?_; exact zk.h) : p := h ⟨k⟩
theorem Z2b {p q : Prop} (k : q) (h : Hid q → p := by intro zk; refine Z1 ?_; refine Z5e ?_; exact zk.h) : p := h ⟨k⟩
theorem Z1q {p q : Prop} (k : q) (h : Hid q → p := by intro zk; refine Z15 ?_; refine Z1p ?_; exact zk.h) : p := h ⟨k⟩
theorem Z69 {p q : Prop} (k : q) (h : Hid q → p := by intro zk; refine Z8e ?_; refine Z8e ?_; exact zk.h) : p := h ⟨k⟩
theorem Zdg {p q : Prop} (k : q) (h : Hid q → p := by intro zk; refine e_q 14 rfl (wn_none rfl) (op_nilck rfl) ?_; refine e_q 15 rfl (wn_none rfl) (op_field fld_116_1 rfl) ?_; exact zk.h) : p := h ⟨k⟩
theorem Zdh {p q : Prop} (k : q) (h : Hid q → p := by intro zk; refine Zdg ?_; refine Zcq ?_; exact zk.h) : p := h ⟨k⟩
theorem Zdi {p q : Prop} (k : q) (h : Hid q → p := by intro zk; refine Zdh ?_; refine e_q 18 rfl (wn_none rfl) (op_field fld_116_2 rfl) ?_; exact zk.h) : p := h ⟨k⟩
theorem Zh {p q : Prop} (k : q) (h : Hid q → p := by intro zk; refine Zdi ?_; refine Zcr ?_; exact zk.h) : p := h ⟨k⟩
theorem Zdj {p q : Prop} (k : q) (h : Hid q → p := by intro zk; refine e_q 14 rfl (wn_none rfl) (op_nilck rfl) ?_; refine e_q 15 rfl (wn_none rfl) (op_field fld_116_3 rfl) ?_; exact zk.h) : p := h ⟨k⟩
theorem Zdk {p q : Prop} (k : q) (h : Hid q → p := by intro zk; refine Zdj ?_; refine Zcq ?_; exact zk.h) : p := h ⟨k⟩
theorem Zdl {p q : Prop} (k : q) (h : Hid q → p := by intro zk; refine Zdk ?_; refine e_q 18 rfl (wn_none rfl) (op_field fld_116_4 rfl) ?_; exact zk.h) : p := h ⟨k⟩
theorem Zdm {p q : Prop} (k : q) (h : Hid q → p := by intro zk; refine Zdl ?_; refine Zcr ?_; exact zk.h) : p := h ⟨k⟩
theorem Zi {p q : Prop} (k : q) (h : Hid q → p := by intro zk; refine Zdm ?_; refine px_blockN ?_; exact zk.h) : p := h ⟨k⟩
theorem Zcu {p q : Prop} (k : q) (h : Hid q → p := by intro zk; refine Z2i ?_; refine e_q 27 rfl (wn_none rfl) (op_add32 _ _ rfl rfl) ?_; exact zk.h) : p := h ⟨k⟩
theorem Zb7 {p q : Prop} (k : q) (h : Hid q → p := by intro zk; refine oq (op_add rfl rfl (by omega) (by omega)) ?_; refine Z2s ?_; exact zk.h) : p := h ⟨k⟩
theorem Z6n {p q : Prop} (k : q) (h : Hid q → p := by intro zk; refine Z4p ?_; refine Zb7 ?_; exact zk.h) : p := h ⟨k⟩
theorem Z48 {p q : Prop} (k : q) (h : Hid q → p := by intro zk; refine Z1 ?_; refine cd_block ?_; exact zk.h) : p := h ⟨k⟩
theorem Z3a {p q : Prop} (k : q) (h : Hid q → p := by intro zk; refine Z1 ?_; refine cd_cond_f rfl rfl ?_; exact zk.h) : p := h ⟨k⟩
theorem Z1y {p q : Prop} (k : q) (h : Hid q → p := by intro zk; refine Z1c ?_; refine Z13 ?_; exact zk.h) : p := h ⟨k⟩
theorem Zaj {p q : Prop} (k : q) (h : Hid q → p := by intro zk; refine et_nil (by kernel_rfl) ?_; refine Z5o ?_; exact zk.h) : p := h ⟨k⟩
theorem Zu {p : Prop} (h : p := by refine px_loop2 (i + 1) (by omega) (by (try dsimp only); omega) ⟨congrArg (Value.int .i64) (by simp), trivial⟩ ?_ (fun _ s => (by (try dsimp only); rw [e1]; exact s)); exact Z2) : p := h
theorem Z1s {p q : Prop} (k : q) (h : Hid q → p := by intro zk; refine Z1 ?_; refine cd_ret ?_; exact zk.h) : p := h ⟨k⟩
theorem Zv {p q : Prop} (k : q) (h : Hid q → p := by intro zk; refine Zk ?_; refine Z13 ?_; exact zk.h) : p := h ⟨k⟩
theorem Zdn {p q : Prop} (k : q) (h : Hid q → p := by intro zk; refine Z0 ?_; refine Z4y ?_; exact zk.h) : p := h ⟨k⟩
theorem Zx {p q : Prop} (k : q) (h : Hid q → p := by intro zk; refine Zdn ?_; refine Z39 ?_; exact zk.h) : p := h ⟨k⟩
theorem Zz {p : Prop} (h : p := by refine px_loop2 (k + 1) (by omega) (by (try dsimp only); omega) ⟨congrArg (Value.int .i64) (by omega), trivial⟩ ?_ (fun _ s => (by (try dsimp only); rw [e1]; exact s)); exact Z2) : p := h
theorem Zdo {p q : Prop} (k : q) (h : Hid q → p := by intro zk; refine e_q 28 rfl (wn_none rfl) (op_aidx0 (k + 16) a1_168 rfl rfl rfl (by omega)) ?_; refine et_1 (i := 29) (by kernel_rfl) ?_; exact zk.h) : p := h ⟨k⟩
theorem Zdp {p q : Prop} (k : q) (h : Hid q → p := by intro zk; refine Zdo ?_; refine ei_iN rfl rfl (wn_none rfl) (os_store (v := .int _ _) sc_163 rfl rfl rfl (Nat.ble_eq_true_of_le (show k + 16 + 1 ≤ _ by rw [List.size_toArray, wC_len, hfl]; omega)) (Free.zero _) (fillA_st (by rw [hml]) (by rw [hml]; omega) _)) ?_; rintro _ _ ⟨rfl, rfl⟩; refine ⟨[_], rfl, ?_⟩; exact zk.h) : p := h ⟨k⟩
theorem Zdq {p q : Prop} (k : q) (h : Hid q → p := by intro zk; refine Zdp ?_; refine et_nil (by kernel_rfl) ?_; exact zk.h) : p := h ⟨k⟩
theorem Z4q {p q : Prop} (k : q) (h : Hid q → p := by intro zk; refine Zdq ?_; refine Z6n ?_; exact zk.h) : p := h ⟨k⟩
theorem Zdr {p q : Prop} (k : q) (h : Hid q → p := by intro zk; refine Z2l ?_; refine ei_iN rfl rfl (wn_none rfl) (os_pull2 (os_storew (wC _) ag_168 rfl rfl (by rw [wC_len]; rfl) (wC_one _) (by simp [wC_len, w8C_len]) (Free.zero _))) ?_; rintro _ _ ⟨rfl, rfl⟩; refine ⟨[_, _, _], rfl, ?_⟩; exact zk.h) : p := h ⟨k⟩
theorem Z10 {p q : Prop} (k : q) (h : Hid q → p := by intro zk; refine Zdr ?_; refine Zcs ?_; exact zk.h) : p := h ⟨k⟩
theorem Zds {p q : Prop} (k : q) (h : Hid q → p := by intro zk; refine Z2l ?_; refine ei_iN rfl rfl (wn_none rfl) (os_pull1 (os_storew (wC _) ag_168 rfl rfl (by rw [wC_len]; rfl) (wC_one _) (by simp [wC_len, w8C_len]) (Free.zero _))) ?_; rintro _ _ ⟨rfl, rfl⟩; refine ⟨[_, _, _], rfl, ?_⟩; exact zk.h) : p := h ⟨k⟩
theorem Z11 {p q : Prop} (k : q) (h : Hid q → p := by intro zk; refine Zds ?_; refine Zcs ?_; exact zk.h) : p := h ⟨k⟩
theorem Z12 {p q : Prop} (k : q) (h : Hid q → p := by intro zk; refine Zo ?_; refine e_q 9 rfl (wn_none rfl) (op_add32 _ _ rfl rfl) ?_; exact zk.h) : p := h ⟨k⟩
theorem Zdt {p q : Prop} (k : q) (h : Hid q → p := by intro zk; refine e_q 28 rfl (wn_none rfl) (op_aidx0 i a1_168 rfl rfl rfl (by omega)) ?_; refine et_1 (i := 29) (by kernel_rfl) ?_; exact zk.h) : p := h ⟨k⟩
theorem Zdu {p q : Prop} (k : q) (h : Hid q → p := by intro zk; refine Zdt ?_; refine ei_iN rfl rfl (wn_none rfl) (os_store (v := .int _ _) sc_163 rfl rfl rfl (Nat.ble_eq_true_of_le (show i + 1 ≤ _ by rw [List.size_toArray, wC_len, fillA_len (by rw [hml]; omega)]; omega)) (Free.zero _) (fillA_st hml.symm (by rw [hml]; omega) _)) ?_; rintro _ _ ⟨rfl, rfl⟩; refine ⟨[_], rfl, ?_⟩; exact zk.h) : p := h ⟨k⟩
theorem Z4r {p q : Prop} (k : q) (h : Hid q → p := by intro zk; refine Zdu ?_; refine Zaj ?_; exact zk.h) : p := h ⟨k⟩
theorem Z19 {p q : Prop} (k : q) (h : Hid q → p := by intro zk; refine Z1 ?_; refine Z0 ?_; exact zk.h) : p := h ⟨k⟩
theorem Z31 {p q : Prop} (k : q) (h : Hid q → p := by intro zk; refine Z0 ?_; refine Zc ?_; exact zk.h) : p := h ⟨k⟩
theorem Z3b {p q : Prop} (k : q) (h : Hid q → p := by intro zk; refine Z18 ?_; refine Zp ?_; exact zk.h) : p := h ⟨k⟩
theorem Z6o {p q : Prop} (k : q) (h : Hid q → p := by intro zk; refine Zf ?_; refine Z54 ?_; exact zk.h) : p := h ⟨k⟩
theorem Z49 {p q : Prop} (k : q) (h : Hid q → p := by intro zk; refine Z6s ?_; refine Z6s ?_; exact zk.h) : p := h ⟨k⟩
theorem Z6p {a0 : Sort _} {a1 : ∀ (zz0 : a0), Sort _} {q : ∀ (zz0 : a0) (zz1 : a1 zz0), Prop} {p : Prop} (k : ∀ (zz0 : a0) (zz1 : a1 zz0), q zz0 zz1) (h : Hid (∀ (zz0 : a0) (zz1 : a1 zz0), q zz0 zz1) → p := by intro zk; refine Z5i ?_; refine ei_i rfl rfl (wn_none rfl) (os_pull4 (os_append (E := encI64) rfl sB_42 zv_3 rfl rfl rfl (fun w s => (rds_row 2 rfl rfl) [] w s) rfl (by simp; omega) (by unfold maxLen; simp; omega))) rfl ?_; rintro _ _ ⟨zz0, zz1, rfl, rfl⟩; refine ⟨[_, _, _, _, _], rfl, ?_⟩; exact zk.h zz0 zz1) : p := h ⟨k⟩
theorem Z1j {a0 : Sort _} {a1 : ∀ (zz0 : a0), Sort _} {a2 : ∀ (zz0 : a0) (zz1 : a1 zz0), Sort _} {a3 : ∀ (zz0 : a0) (zz1 : a1 zz0) (zz2 : a2 zz0 zz1), Sort _} {q : ∀ (zz0 : a0) (zz1 : a1 zz0) (zz2 : a2 zz0 zz1) (zz3 : a3 zz0 zz1 zz2), Prop} {p : Prop} (k : ∀ (zz0 : a0) (zz1 : a1 zz0) (zz2 : a2 zz0 zz1) (zz3 : a3 zz0 zz1 zz2), q zz0 zz1 zz2 zz3) (h : Hid (∀ (zz0 : a0) (zz1 : a1 zz0) (zz2 : a2 zz0 zz1) (zz3 : a3 zz0 zz1 zz2), q zz0 zz1 zz2 zz3) → p := by intro zk; refine Z6f ?_; intro zz0 zz1; refine Z6p ?_; intro zz2 zz3; exact zk.h zz0 zz1 zz2 zz3) : p := h ⟨k⟩
theorem Z6q {a0 : Sort _} {a1 : ∀ (zz0 : a0), Sort _} {q : ∀ (zz0 : a0) (zz1 : a1 zz0), Prop} {p : Prop} (k : ∀ (zz0 : a0) (zz1 : a1 zz0), q zz0 zz1) (h : Hid (∀ (zz0 : a0) (zz1 : a1 zz0), q zz0 zz1) → p := by intro zk; refine Z5i ?_; refine ei_i rfl rfl (wn_none rfl) (os_pull4 (os_append (E := encI64) rfl sB_42 zv_3 rfl rfl rfl (fun w s => (rds_row 3 rfl rfl) [] w s) rfl (by simp; omega) (by unfold maxLen; simp; omega))) rfl ?_; rintro _ _ ⟨zz0, zz1, rfl, rfl⟩; refine ⟨[_, _, _, _, _], rfl, ?_⟩; exact zk.h zz0 zz1) : p := h ⟨k⟩
theorem Z1k {a0 : Sort _} {a1 : ∀ (zz0 : a0), Sort _} {a2 : ∀ (zz0 : a0) (zz1 : a1 zz0), Sort _} {a3 : ∀ (zz0 : a0) (zz1 : a1 zz0) (zz2 : a2 zz0 zz1), Sort _} {q : ∀ (zz0 : a0) (zz1 : a1 zz0) (zz2 : a2 zz0 zz1) (zz3 : a3 zz0 zz1 zz2), Prop} {p : Prop} (k : ∀ (zz0 : a0) (zz1 : a1 zz0) (zz2 : a2 zz0 zz1) (zz3 : a3 zz0 zz1 zz2), q zz0 zz1 zz2 zz3) (h : Hid (∀ (zz0 : a0) (zz1 : a1 zz0) (zz2 : a2 zz0 zz1) (zz3 : a3 zz0 zz1 zz2), q zz0 zz1 zz2 zz3) → p := by intro zk; refine Z6g ?_; intro zz0 zz1; refine Z6q ?_; intro zz2 zz3; exact zk.h zz0 zz1 zz2 zz3) : p := h ⟨k⟩
theorem Z3m {p q : Prop} (k : q) (h : Hid q → p := by intro zk; refine Z5j ?_; refine Zt ?_; exact zk.h) : p := h ⟨k⟩
theorem Z1l {p q : Prop} (k : q) (h : Hid q → p := by intro zk; refine Z4 ?_; refine Z48 ?_; exact zk.h) : p := h ⟨k⟩
theorem Zcv {p q : Prop} (k : q) (h : Hid q → p := by intro zk; refine Z2h ?_; refine et_1 (i := 20) (by kernel_rfl) ?_; exact zk.h) : p := h ⟨k⟩
theorem Zdv {p q : Prop} (k : q) (h : Hid q → p := by intro zk; refine Z8t ?_; refine ei_i rfl rfl (wn_none rfl) (os_call cb_119 rfl (fun w s => keys_calls  s )) rfl ?_; rintro _ _ ⟨rfl, rfl⟩; refine ⟨[_, _, _], rfl, ?_⟩; exact zk.h) : p := h ⟨k⟩
theorem Z1m {p q : Prop} (k : q) (h : Hid q → p := by intro zk; refine Zdv ?_; refine Z1f ?_; exact zk.h) : p := h ⟨k⟩
theorem Z1r {p q : Prop} (k : q) (h : Hid q → p := by intro zk; refine Z8 ?_; refine Z18 ?_; exact zk.h) : p := h ⟨k⟩
theorem Z1g {p q : Prop} (k : q) (h : Hid q → p := by intro zk; refine Z5s ?_; refine Z5s ?_; exact zk.h) : p := h ⟨k⟩
theorem Z5p {p q : Prop} (k : q) (h : Hid q → p := by intro zk; refine Z5 ?_; refine Z49 ?_; exact zk.h) : p := h ⟨k⟩
theorem Z1t {p q : Prop} (k : q) (h : Hid q → p := by intro zk; refine Z16 ?_; refine cd_ret ?_; exact zk.h) : p := h ⟨k⟩
theorem Z5a {p q : Prop} (k : q) (h : Hid q → p := by intro zk; refine Z8 ?_; refine Z1q ?_; exact zk.h) : p := h ⟨k⟩
theorem Z1u {p q : Prop} (k : q) (h : Hid q → p := by intro zk; refine Z7 ?_; refine Z6u ?_; exact zk.h) : p := h ⟨k⟩
theorem Z1v {p q : Prop} (k : q) (h : Hid q → p := by intro zk; refine Zg ?_; refine Zr ?_; exact zk.h) : p := h ⟨k⟩
theorem Zcw {p q : Prop} (k : q) (h : Hid q → p := by intro zk; refine Z2o ?_; refine Z13 ?_; exact zk.h) : p := h ⟨k⟩
theorem Z1n {a0 : Sort _} {q : ∀ (zz0 : a0), Prop} {p : Prop} (k : ∀ (zz0 : a0), q zz0) (h : Hid (∀ (zz0 : a0), q zz0) → p := by intro zk; refine Z1d ?_; intro zz0; refine Zt ?_; exact zk.h zz0) : p := h ⟨k⟩
theorem Z1o {a0 : Sort _} {q : ∀ (zz0 : a0), Prop} {p : Prop} (k : ∀ (zz0 : a0), q zz0) (h : Hid (∀ (zz0 : a0), q zz0) → p := by intro zk; refine Z2r ?_; intro zz0; refine Z1f ?_; exact zk.h zz0) : p := h ⟨k⟩
theorem Z2j {p q : Prop} (k : q) (h : Hid q → p := by intro zk; refine Z8k ?_; refine Z8k ?_; exact zk.h) : p := h ⟨k⟩
theorem Z1z {p q : Prop} (k : q) (h : Hid q → p := by intro zk; refine Zcw ?_; refine Z2o ?_; exact zk.h) : p := h ⟨k⟩
theorem Z5b {p q : Prop} (k : q) (h : Hid q → p := by intro zk; refine Z6o ?_; refine Z1 ?_; exact zk.h) : p := h ⟨k⟩
theorem Z2c {p q : Prop} (k : q) (h : Hid q → p := by intro zk; refine Z3a ?_; refine Za ?_; exact zk.h) : p := h ⟨k⟩
theorem Z2d {p q : Prop} (k : q) (h : Hid q → p := by intro zk; refine Z1e ?_; refine Z0 ?_; exact zk.h) : p := h ⟨k⟩
theorem Zdw {p q : Prop} (k : q) (h : Hid q → p := by intro zk; refine et_1 (i := 22) (by kernel_rfl) ?_; refine Z58 ?_; exact zk.h) : p := h ⟨k⟩
theorem Zdx {p q : Prop} (k : q) (h : Hid q → p := by intro zk; refine Zdw ?_; refine Zcu ?_; exact zk.h) : p := h ⟨k⟩
theorem Z5q {p q : Prop} (k : q) (h : Hid q → p := by intro zk; refine Zdx ?_; refine Z4q ?_; exact zk.h) : p := h ⟨k⟩
theorem Z2e {p q : Prop} (k : q) (h : Hid q → p := by intro zk; refine Z2h ?_; refine e_q 27 rfl (wn_none rfl) (op_add32 _ _ rfl rfl) ?_; exact zk.h) : p := h ⟨k⟩
theorem Zdy {p q : Prop} (k : q) (h : Hid q → p := by intro zk; refine et_1 (i := 22) (by kernel_rfl) ?_; refine Z59 ?_; exact zk.h) : p := h ⟨k⟩
theorem Zdz {p q : Prop} (k : q) (h : Hid q → p := by intro zk; refine Zdy ?_; refine Zcu ?_; exact zk.h) : p := h ⟨k⟩
theorem Z5r {p q : Prop} (k : q) (h : Hid q → p := by intro zk; refine Zdz ?_; refine Z4r ?_; exact zk.h) : p := h ⟨k⟩
theorem Z6a {p q : Prop} (k : q) (h : Hid q → p := by intro zk; refine Z1b ?_; refine Z1p ?_; exact zk.h) : p := h ⟨k⟩
theorem Zb8 {p q : Prop} (k : q) (h : Hid q → p := by intro zk; refine ol_q (wn_some rfl rfl rfl hb1 rfl) (op_ld 2 sc_42 rfl rfl rfl) rfl ?_; refine ol_q (wn_some rfl rfl rfl hb1 rfl) (op_len_slice Try.underlying42 rfl) rfl ?_; exact zk.h) : p := h ⟨k⟩
theorem Z5c {p q : Prop} (k : q) (h : Hid q → p := by intro zk; refine oq (op_ne rfl rfl) ?_; refine Z1 ?_; exact zk.h) : p := h ⟨k⟩
theorem Zb9 {a0 : Sort _} {q : ∀ (zz0 : a0), Prop} {p : Prop} (k : ∀ (zz0 : a0), q zz0) (h : Hid (∀ (zz0 : a0), q zz0) → p := by intro zk; refine ei_i rfl rfl (wn_none rfl) (os_boxa rfl) rfl ?_; rintro _ _ ⟨zz0, rfl, rfl⟩; refine ⟨[_, _, _], rfl, ?_⟩; refine e_q 11 rfl (wn_none rfl) (op_assign (v := .pointer _) rfl) ?_; exact zk.h zz0) : p := h ⟨k⟩
theorem Z2t {p q : Prop} (k : q) (h : Hid q → p := by intro zk; refine Z3g ?_; refine Z18 ?_; exact zk.h) : p := h ⟨k⟩
theorem Z32 {p q : Prop} (k : q) (h : Hid q → p := by intro zk; refine Z2l ?_; refine ei_i rfl rfl (wn_none rfl) (os_q (op_ld 3 sc_42 rfl rfl rfl)) rfl ?_; rintro _ _ ⟨rfl, rfl⟩; refine ⟨[_, _, _, _, _], rfl, ?_⟩; exact zk.h) : p := h ⟨k⟩
theorem Z33 {p q : Prop} (k : q) (h : Hid q → p := by intro zk; refine Z3g ?_; refine Z0 ?_; exact zk.h) : p := h ⟨k⟩
theorem Z34 {p q : Prop} (k : q) (h : Hid q → p := by intro zk; refine cd_skip ?_; refine Z5o ?_; exact zk.h) : p := h ⟨k⟩
theorem Z35 {p q : Prop} (k : q) (h : Hid q → p := by intro zk; refine ol_nil ?_; refine Z5o ?_; exact zk.h) : p := h ⟨k⟩
theorem Z2p {p q : Prop} (k : q) (h : Hid q → p := by intro zk; refine Z9d ?_; refine Z9d ?_; exact zk.h) : p := h ⟨k⟩
theorem Z3n {p q : Prop} (k : q) (h : Hid q → p := by intro zk; refine Z9i ?_; refine Z9i ?_; exact zk.h) : p := h ⟨k⟩
theorem Z98 {a0 : Sort _} {a1 : ∀ (zz0 : a0), Sort _} {q : ∀ (zz0 : a0) (zz1 : a1 zz0), Prop} {p : Prop} (k : ∀ (zz0 : a0) (zz1 : a1 zz0), q zz0 zz1) (h : Hid (∀ (zz0 : a0) (zz1 : a1 zz0), q zz0 zz1) → p := by intro zk; refine Z5i ?_; refine ei_i rfl rfl (wn_none rfl) (os_pull4 (os_append (E := encI64) rfl sB_42 zv_3 rfl rfl rfl (fun w s => (rds_row 1 rfl rfl) [] w s) rfl (by simp; omega) (by unfold maxLen; simp; omega))) rfl ?_; rintro _ _ ⟨zz0, zz1, rfl, rfl⟩; refine ⟨[_, _, _, _, _], rfl, ?_⟩; exact zk.h zz0 zz1) : p := h ⟨k⟩
theorem Z36 {a0 : Sort _} {a1 : ∀ (zz0 : a0), Sort _} {a2 : ∀ (zz0 : a0) (zz1 : a1 zz0), Sort _} {q : ∀ (zz0 : a0) (zz1 : a1 zz0) (zz2 : a2 zz0 zz1), Prop} {p : Prop} (k : ∀ (zz0 : a0) (zz1 : a1 zz0) (zz2 : a2 zz0 zz1), q zz0 zz1 zz2) (h : Hid (∀ (zz0 : a0) (zz1 : a1 zz0) (zz2 : a2 zz0 zz1), q zz0 zz1 zz2) → p := by intro zk; refine Z1d ?_; intro zz0; refine Z98 ?_; intro zz1 zz2; exact zk.h zz0 zz1 zz2) : p := h ⟨k⟩
theorem Zba {p q : Prop} (k : q) (h : Hid q → p := by intro zk; refine Z5 ?_; refine Z3e ?_; exact zk.h) : p := h ⟨k⟩
theorem Z3c {p q : Prop} (k : q) (h : Hid q → p := by intro zk; refine Zo ?_; refine Z5n ?_; exact zk.h) : p := h ⟨k⟩
theorem Z3d {p q : Prop} (k : q) (h : Hid q → p := by intro zk; refine Zr ?_; refine oq (op_field fld_179_1 rfl) ?_; exact zk.h) : p := h ⟨k⟩
theorem Zbb {p q : Prop} (k : q) (h : Hid q → p := by intro zk; refine e_q 4 rfl (wn_none rfl) (op_field fld_84_0 rfl) ?_; refine e_q 5 rfl (wn_none rfl) (op_ld 1 sc_3 rfl rfl (voteC_a0 _)) ?_; exact zk.h) : p := h ⟨k⟩
theorem Zcx {a0 : Sort _} {q : ∀ (zz0 : a0), Prop} {p : Prop} (k : ∀ (zz0 : a0), q zz0) (h : Hid (∀ (zz0 : a0), q zz0) → p := by intro zk; refine rg_i (wn_none rfl) (os_alloc (cs := (rootC Root.zero).toArray) zB_24 (by kernel_rfl)) rfl rfl ?_; rintro _ _ ⟨zz0, rfl, rfl⟩; refine ⟨[_], rfl, ?_⟩; refine rg_iN (wn_none rfl) (os_storera _ ag_24 rfl rfl (Free.zero _)) rfl ?_; rintro _ _ ⟨rfl, rfl⟩; refine ⟨[_], rfl, ?_⟩; exact zk.h zz0) : p := h ⟨k⟩
theorem Zak {p q : Prop} (k : q) (h : Hid q → p := by intro zk; refine oq (op_field fld_72_3 rfl) ?_; refine oq (op_ld 1 sc_3 rfl rfl (vActC_a3 _)) ?_; exact zk.h) : p := h ⟨k⟩
theorem Z8d {p q : Prop} (k : q) (h : Hid q → p := by intro zk; refine Zn ?_; refine cd_drawe (M := []) mx [1, 6, 7] ?_; exact zk.h) : p := h ⟨k⟩
theorem Zal {p q : Prop} (k : q) (h : Hid q → p := by intro zk; refine oq (op_field fld_78_0 rfl) ?_; refine oq (op_ld 0 sc_3 rfl rfl (valC_a0 _)) ?_; exact zk.h) : p := h ⟨k⟩
theorem Z3h {p q : Prop} (k : q) (h : Hid q → p := by intro zk; refine Z5p ?_; refine Z6b ?_; exact zk.h) : p := h ⟨k⟩
theorem Z3i {p q : Prop} (k : q) (h : Hid q → p := by intro zk; refine Zg ?_; refine Z1p ?_; exact zk.h) : p := h ⟨k⟩
theorem Z3j {p q : Prop} (k : q) (h : Hid q → p := by intro zk; refine Z8 ?_; refine cd_block ?_; exact zk.h) : p := h ⟨k⟩
theorem Zbc {p q : Prop} (k : q) (h : Hid q → p := by intro zk; refine e_q 2 rfl (wn_none rfl) (op_field fld_131_3 rfl) ?_; refine e_q 3 rfl (wn_none rfl) (op_ld 2 sc_79 rfl rfl rfl) ?_; exact zk.h) : p := h ⟨k⟩
theorem Z3o {p q : Prop} (k : q) (h : Hid q → p := by intro zk; refine Z69 ?_; refine Z69 ?_; exact zk.h) : p := h ⟨k⟩
theorem Z2u {p q : Prop} (k : q) (h : Hid q → p := by intro zk; refine Z4 ?_; refine Z4 ?_; exact zk.h) : p := h ⟨k⟩
theorem Zbd {p q : Prop} (k : q) (h : Hid q → p := by intro zk; refine e_q 4 rfl (wn_none rfl) (op_move (v := .pointer _) rfl) ?_; refine e_q 5 rfl (wn_none rfl) (op_nilck rfl) ?_; exact zk.h) : p := h ⟨k⟩
theorem Z3p {p q : Prop} (k : q) (h : Hid q → p := by intro zk; refine Z2b ?_; refine Z31 ?_; exact zk.h) : p := h ⟨k⟩
theorem Z3q {p q : Prop} (k : q) (h : Hid q → p := by intro zk; refine Z2w ?_; refine Z1a ?_; exact zk.h) : p := h ⟨k⟩
theorem Ze0 {p q : Prop} (k : q) (h : Hid q → p := by intro zk; refine Z38 ?_; refine oq (op_extract (v := .agg _) rfl rfl) ?_; exact zk.h) : p := h ⟨k⟩
theorem Z3r {p q : Prop} (k : q) (h : Hid q → p := by intro zk; refine Ze0 ?_; refine Z52 ?_; exact zk.h) : p := h ⟨k⟩
theorem Z3s {p q : Prop} (k : q) (h : Hid q → p := by intro zk; refine Z5h ?_; refine Z1 ?_; exact zk.h) : p := h ⟨k⟩
theorem Z3t {p q : Prop} (k : q) (h : Hid q → p := by intro zk; refine Z2w ?_; refine rg_nil_then1 ?_; exact zk.h) : p := h ⟨k⟩
theorem Z3u {p q : Prop} (k : q) (h : Hid q → p := by intro zk; refine Z4y ?_; refine Z1 ?_; exact zk.h) : p := h ⟨k⟩
theorem Z3v {p q : Prop} (k : q) (h : Hid q → p := by intro zk; refine Z15 ?_; refine Zba ?_; exact zk.h) : p := h ⟨k⟩
theorem Z3w {p q : Prop} (k : q) (h : Hid q → p := by intro zk; refine Z2b ?_; refine Z1y ?_; exact zk.h) : p := h ⟨k⟩
theorem Z3x {p q : Prop} (k : q) (h : Hid q → p := by intro zk; refine Z9u ?_; refine rg_q (wn_none rfl) (op_lda (L := rootC _) 3 ag_24 rfl rfl (voteC_af2 _) (by simp [voteC_len])) rfl rfl ?_; exact zk.h) : p := h ⟨k⟩
theorem Zcy {p q : Prop} (k : q) (h : Hid q → p := by intro zk; refine Z60 ?_; refine oq (op_lda (L := rootC _) 2 ag_24 rfl rfl (voteC_af2 _) (by simp [voteC_len])) ?_; exact zk.h) : p := h ⟨k⟩
theorem Zcz {p q : Prop} (k : q) (h : Hid q → p := by intro zk; refine Z4 ?_; refine oq (op_neg rfl) ?_; exact zk.h) : p := h ⟨k⟩
theorem Zd0 {p q : Prop} (k : q) (h : Hid q → p := by intro zk; refine ol_nil ?_; refine px_then ?_; exact zk.h) : p := h ⟨k⟩
theorem Z3y {p q : Prop} (k : q) (h : Hid q → p := by intro zk; refine Za ?_; refine Z3b ?_; exact zk.h) : p := h ⟨k⟩
theorem Zd1 {p q : Prop} (k : q) (h : Hid q → p := by intro zk; refine rg_q (wn_none rfl) (op_ld 5 sc_3 rfl rfl (voteC_a0 _)) rfl rfl ?_; refine rg_q (wn_none rfl) (op_index _ sB_132 rfl rfl (Int.toNat_of_nonneg (by omega)).symm (rds_row 6 rfl rfl) rfl (by omega)) rfl rfl ?_; exact zk.h) : p := h ⟨k⟩
theorem Zd2 {p q : Prop} (k : q) (h : Hid q → p := by intro zk; refine rg_q (wn_none rfl) (op_ld 6 sc_3 rfl rfl (voteC_a0 _)) rfl rfl ?_; refine rg_q (wn_none rfl) (op_index _ sB_132 rfl rfl (Int.toNat_of_nonneg (by omega)).symm (rds_row 7 rfl rfl) rfl (by omega)) rfl rfl ?_; exact zk.h) : p := h ⟨k⟩
theorem Z5d {p q : Prop} (k : q) (h : Hid q → p := by intro zk; refine cd_pull6 ?_; refine Z7 ?_; exact zk.h) : p := h ⟨k⟩
theorem Zd3 {a0 : Sort _} {q : ∀ (zz0 : a0), Prop} {p : Prop} (k : ∀ (zz0 : a0), q zz0) (h : Hid (∀ (zz0 : a0), q zz0) → p := by intro zk; refine oi (os_alloc (cs := (firstC First.zero).toArray) zB_155 (by kernel_rfl)) ?_; rintro _ _ ⟨zz0, rfl, rfl⟩; refine oN (os_storew (firstC _) ag_155 rfl rfl (firstC_len _) (firstC_one _) (by simp [firstC_len]) (Free.zero _)) ?_; rintro _ _ ⟨rfl, rfl⟩; exact zk.h zz0) : p := h ⟨k⟩
theorem Zam {p q : Prop} (k : q) (h : Hid q → p := by intro zk; refine rg_q (wn_none rfl) (op_field fld_78_1 rfl) rfl rfl ?_; refine rg_q (wn_none rfl) (op_ld 0 sc_9 rfl rfl (valC_a1 _)) rfl rfl ?_; exact zk.h) : p := h ⟨k⟩
theorem Z4a {p q : Prop} (k : q) (h : Hid q → p := by intro zk; refine Z9g ?_; refine Zb ?_; exact zk.h) : p := h ⟨k⟩
theorem Z4b {p q : Prop} (k : q) (h : Hid q → p := by intro zk; refine Z6x ?_; refine Z3m ?_; exact zk.h) : p := h ⟨k⟩
theorem Z4c {p q : Prop} (k : q) (h : Hid q → p := by intro zk; refine Z1 ?_; refine Z15 ?_; exact zk.h) : p := h ⟨k⟩
theorem Ze1 {p q : Prop} (k : q) (h : Hid q → p := by intro zk; refine Zcv ?_; refine Z62 ?_; exact zk.h) : p := h ⟨k⟩
theorem Z4d {p q : Prop} (k : q) (h : Hid q → p := by intro zk; refine Ze1 ?_; refine Z5q ?_; exact zk.h) : p := h ⟨k⟩
theorem Ze2 {p q : Prop} (k : q) (h : Hid q → p := by intro zk; refine Zcv ?_; refine Z64 ?_; exact zk.h) : p := h ⟨k⟩
theorem Z4e {p q : Prop} (k : q) (h : Hid q → p := by intro zk; refine Ze2 ?_; refine Z5r ?_; exact zk.h) : p := h ⟨k⟩
theorem Ze3 {p q : Prop} (k : q) (h : Hid q → p := by intro zk; refine Z6a ?_; refine Zcy ?_; exact zk.h) : p := h ⟨k⟩
theorem Ze4 {p q : Prop} (k : q) (h : Hid q → p := by intro zk; refine Ze3 ?_; refine Zcz ?_; exact zk.h) : p := h ⟨k⟩
theorem Ze5 {p q : Prop} (k : q) (h : Hid q → p := by intro zk; refine Ze4 ?_; refine Z25 ?_; exact zk.h) : p := h ⟨k⟩
theorem Ze6 {p q : Prop} (k : q) (h : Hid q → p := by intro zk; refine Ze5 ?_; refine Z25 ?_; exact zk.h) : p := h ⟨k⟩
theorem Z4f {p q : Prop} (k : q) (h : Hid q → p := by intro zk; refine Ze6 ?_; refine Zl ?_; exact zk.h) : p := h ⟨k⟩
theorem Ze7 {p q : Prop} (k : q) (h : Hid q → p := by intro zk; refine oi (os_call cb_75 rfl (fun w s => put_calls _ _ _ _ _ _ _ _ _ _ _ _ _ _ _ _ _ _ _ _ _ _  s (Nat.le_of_eq (ownE_len _ _ _)) (ownE_ok hsk hw))) ?_; rintro _ _ ⟨rfl, rfl⟩; refine Zd0 ?_; exact zk.h) : p := h ⟨k⟩
theorem Z4g {p q : Prop} (k : q) (h : Hid q → p := by intro zk; refine Ze7 ?_; refine Z5b ?_; exact zk.h) : p := h ⟨k⟩
theorem Z99 {p q : Prop} (k : q) (h : Hid q → p := by intro zk; refine et_1 (i := 17) (by kernel_rfl) ?_; refine Zo ?_; exact zk.h) : p := h ⟨k⟩
theorem Zd4 {p q : Prop} (k : q) (h : Hid q → p := by intro zk; refine oq (op_conv64m (39 - i) Try.underlying74 (by rw [Try.underlying3]; rfl) rfl (by omega) (by omega)) ?_; refine oq (op_shl_nat (A := 1) (m := 39 - i) rfl rfl (by omega) (pow39 i)) ?_; exact zk.h) : p := h ⟨k⟩
theorem Zd5 {p q : Prop} (k : q) (h : Hid q → p := by intro zk; refine rg_q (wn_none rfl) (op_len_string Try.underlying9 rfl) rfl rfl ?_; refine rg_q (wn_none rfl) (op_conv64 Try.underlying142 (by rw [Try.underlying3]; rfl) rfl (by omega)) rfl rfl ?_; exact zk.h) : p := h ⟨k⟩
theorem Zd6 {p q : Prop} (k : q) (h : Hid q → p := by intro zk; refine rg_q (wn_none rfl) (op_field fld_65_3 rfl) rfl rfl ?_; refine rg_q (wn_none rfl) (op_ld 0 sc_3 rfl rfl (show (cfgC _).toArray[3]? = some (.int .i64 n3) from cfgC_a3 _)) rfl rfl ?_; exact zk.h) : p := h ⟨k⟩
theorem Z4s {p q : Prop} (k : q) (h : Hid q → p := by intro zk; refine Z4h ?_; refine Z1s ?_; exact zk.h) : p := h ⟨k⟩
theorem Z4t {p q : Prop} (k : q) (h : Hid q → p := by intro zk; refine Z69 ?_; refine Z8e ?_; exact zk.h) : p := h ⟨k⟩
theorem Z4u {p q : Prop} (k : q) (h : Hid q → p := by intro zk; refine Zc ?_; refine Zb ?_; exact zk.h) : p := h ⟨k⟩
theorem Ze8 {p q : Prop} (k : q) (h : Hid q → p := by intro zk; refine ei_i rfl rfl (wn_none rfl) (os_call cb_120 rfl (fun w s => turn_calls (k := 18) _  s (by decide) (by decide))) rfl ?_; rintro _ _ ⟨rfl, rfl⟩; refine ⟨[_], rfl, ?_⟩; refine e_q 9 rfl (wn_none rfl) (op_xor32 _ _ rfl rfl) ?_; exact zk.h) : p := h ⟨k⟩
theorem Z4v {p q : Prop} (k : q) (h : Hid q → p := by intro zk; refine Ze8 ?_; refine e_q 12 rfl (wn_none rfl) (op_xor32 _ _ rfl rfl) ?_; exact zk.h) : p := h ⟨k⟩
theorem Z4w {p q : Prop} (k : q) (h : Hid q → p := by intro zk; refine Z4 ?_; refine oq (op_add32 _ _ rfl rfl) ?_; exact zk.h) : p := h ⟨k⟩
theorem Ze9 {p q : Prop} (k : q) (h : Hid q → p := by intro zk; refine ei_i rfl rfl (wn_none rfl) (os_call cb_114 rfl (fun w s => right_calls (k := 18) _  s (by decide) (by decide))) rfl ?_; rintro _ _ ⟨rfl, rfl⟩; refine ⟨[_], rfl, ?_⟩; refine e_q 14 rfl (wn_none rfl) (op_xor32 _ _ rfl rfl) ?_; exact zk.h) : p := h ⟨k⟩
theorem Z4x {p q : Prop} (k : q) (h : Hid q → p := by intro zk; refine Ze9 ?_; refine e_q 17 rfl (wn_none rfl) (op_xor32 _ _ rfl rfl) ?_; exact zk.h) : p := h ⟨k⟩
theorem Zd7 {p q : Prop} (k : q) (h : Hid q → p := by intro zk; refine e_q 16 rfl (wn_none rfl) (op_lda (L := rootC _) 0 ag_24 rfl rfl (rootC_take' _) (by simp [rootC_len])) ?_; refine e_q 17 rfl (wn_none rfl) (op_move (v := .pointer _) rfl) ?_; exact zk.h) : p := h ⟨k⟩
theorem Zd8 {p : Prop} (h : p := by refine px_loop2 ((i0 : Int) - 1) (by omega) (by (try dsimp only); omega) ⟨rfl, trivial⟩ ?_ (fun _ s => (by (try dsimp only); rw [← eL]; exact s)); exact Z2) : p := h
theorem Zd9 {p : Prop} (h : p := by refine px_loop2 ((i0 : Int) - 1) (by omega) (by (try dsimp only); omega) ⟨rfl, trivial⟩ ?_ (fun _ s => (by (try dsimp only); rw [← eS]; exact s)); exact Z2) : p := h
theorem Zda {p q : Prop} (k : q) (h : Hid q → p := by intro zk; refine oq (op_index _ sB_150 rfl rfl rfl (rds_row 2 rfl rfl) rfl (by omega)) ?_; refine oq (op_ldaw (L := firstC _) ag_155 (rds_row 2 rfl rfl) rfl (by omega) rfl (firstC_ta _)) ?_; exact zk.h) : p := h ⟨k⟩
theorem Zbe {p q : Prop} (k : q) (h : Hid q → p := by intro zk; refine Z5 ?_; refine ol_q (wn_some rfl rfl rfl rfl rfl) (op_move (v := .int _ _) rfl) rfl ?_; exact zk.h) : p := h ⟨k⟩
theorem Zdb {p q : Prop} (k : q) (h : Hid q → p := by intro zk; refine oq (op_index _ sB_37 rfl rfl rfl (rds_row 2 rfl rfl) rfl (by omega)) ?_; refine oq (op_ldaw (L := rootC _) ag_24 (rds_row 2 rfl rfl) rfl (by omega) rfl (rootC_ta _)) ?_; exact zk.h) : p := h ⟨k⟩
theorem Zdc {p q : Prop} (k : q) (h : Hid q → p := by intro zk; refine rg_q (wn_none rfl) (op_ld 0 sc_3 rfl rfl (valC_a0 _)) rfl rfl ?_; refine rg_q (wn_none rfl) (op_conv64i Try.underlying142 (by rw [Try.underlying3]; rfl) rfl) rfl rfl ?_; exact zk.h) : p := h ⟨k⟩
theorem Z6r {p q : Prop} (k : q) (h : Hid q → p := by intro zk; refine cd_pull4 ?_; refine cd_pull5 ?_; exact zk.h) : p := h ⟨k⟩
theorem Z3z {a0 : Sort _} {q : ∀ (zz0 : a0), Prop} {p : Prop} (k : ∀ (zz0 : a0), q zz0) (h : Hid (∀ (zz0 : a0), q zz0) → p := by intro zk; refine Zj ?_; intro zz0; refine Z5a ?_; exact zk.h zz0) : p := h ⟨k⟩
theorem Zbf {p : Prop} (h : p := by refine Zp ?_; exact px_ret1 rfl (v := .int _ _) rfl (fun _ s => s) ⟨rfl, rfl⟩) : p := h
theorem Z9a {p q : Prop} (k : q) (h : Hid q → p := by intro zk; refine Zr ?_; refine oq (op_field fld_44_0 rfl) ?_; exact zk.h) : p := h ⟨k⟩
theorem Z9b {p q : Prop} (k : q) (h : Hid q → p := by intro zk; refine Zr ?_; refine oq (op_field fld_44_2 rfl) ?_; exact zk.h) : p := h ⟨k⟩
end Go.SL
