import Derived.KernelRfl
set_option linter.unusedVariables false
namespace Go.SL
def Hid (p : Prop) : Prop := p
theorem Z1 {p q : Prop} (k : q) (h : Hid q → p := by intro k; refine cd_sr ?_; exact k) : p := h k
theorem Z20 {a0 : Sort _} {q : ∀ (x0 : a0), Prop} {p : Prop} (k : ∀ (x0 : a0), q x0) (h : Hid (∀ (x0 : a0), q x0) → p := by intro k; refine oi (os_alloc (cs := (rootC Root.zero).toArray) zB_24 (by kernel_rfl)) ?_; rintro _ _ ⟨x0, rfl, rfl⟩; exact k x0) : p := h k
theorem Z2 {p q : Prop} (k : q) (h : Hid q → p := by intro k; refine ol_nil_then ?_; exact k) : p := h k
theorem Z4 {p q : Prop} (k : q) (h : Hid q → p := by intro k; refine oq (op_move (v := .int _ _) rfl) ?_; exact k) : p := h k
theorem Z2b {p q : Prop} (k : q) (h : Hid q → p := by intro k; refine oq (op_lda (L := rootC _) 0 ag_24 rfl rfl (rootC_take' _) (by simp [rootC_len])) ?_; exact k) : p := h k
theorem Za {p q : Prop} (k : q) (h : Hid q → p := by intro k; refine ol_pull1 ?_; exact k) : p := h k
theorem Z4a {p q : Prop} (k : q) (h : Hid q → p := by intro k; refine oN (os_storera _ ag_24 rfl rfl (Free.zero _)) ?_; rintro _ _ ⟨rfl, rfl⟩; exact k) : p := h k
theorem Z2c {a0 : Sort _} {q : ∀ (x0 : a0), Prop} {p : Prop} (k : ∀ (x0 : a0), q x0) (h : Hid (∀ (x0 : a0), q x0) → p := by intro k; refine oi (os_boxa rfl) ?_; rintro _ _ ⟨x0, rfl, rfl⟩; exact k x0) : p := h k
theorem Zh {p q : Prop} (k : q) (h : Hid q → p := by intro k; refine oq (op_assign (v := .pointer _) rfl) ?_; exact k) : p := h k
theorem Zq {p q : Prop} (k : q) (h : Hid q → p := by intro k; refine oq (op_assign (v := .int _ _) rfl) ?_; exact k) : p := h k
theorem Z7 {p q : Prop} (k : q) (h : Hid q → p := by intro k; refine cd_seq ?_; exact k) : p := h k
theorem Z4b {p q : Prop} (k : q) (h : Hid q → p := by intro k; refine oq (op_lt rfl rfl) ?_; exact k) : p := h k
theorem Z6 {p q : Prop} (k : q) (h : Hid q → p := by intro k; refine oq (op_move (v := .bool _) rfl) ?_; exact k) : p := h k
theorem Z4c {p q : Prop} (k : q) (h : Hid q → p := by intro k; refine ol_skip (wn_some rfl rfl rfl rfl rfl) rfl ?_; exact k) : p := h k
theorem Z5d {p q : Prop} (k : q) (h : Hid q → p := by intro k; refine oq (op_pick_t (v := .bool _) rfl rfl rfl) ?_; exact k) : p := h k
theorem Z4p {p q : Prop} (k : q) (h : Hid q → p := by intro k; refine cd_cond_t rfl rfl ?_; exact k) : p := h k
theorem Z13 {p q : Prop} (k : q) (h : Hid q → p := by intro k; refine px_thenR ?_; exact k) : p := h k
theorem Z7y {p : Prop} (h : p := by exact px_ret2 rfl (v1 := .pointer _) (v2 := .int _ _) rfl rfl (fun _ s => (s.del 0)) (.inl ⟨rfl, rfl, by omega⟩)) : p := h
theorem Z5y {p q : Prop} (k : q) (h : Hid q → p := by intro k; refine e_q 1 rfl (wn_none rfl) (op_move (v := .int _ _) rfl) ?_; exact k) : p := h k
theorem Z28 {p q : Prop} (k : q) (h : Hid q → p := by intro k; refine et_1 (i := 4) (by kernel_rfl) ?_; exact k) : p := h k
theorem Z1o {p q : Prop} (k : q) (h : Hid q → p := by intro k; refine et_1 (i := 6) (by kernel_rfl) ?_; exact k) : p := h k
theorem Z8v {p q : Prop} (k : q) (h : Hid q → p := by intro k; refine e_q 9 rfl (wn_none rfl) (op_build (L := [_, _, _]) (vs := [(0, .slice _ _ _), (1, .map _), (2, .int _ _)]) bB_114 rfl ⟨⟨rfl, rfl⟩, ⟨rfl, rfl⟩, ⟨rfl, rfl⟩, trivial⟩ rfl) ?_; exact k) : p := h k
theorem Z1e {p q : Prop} (k : q) (h : Hid q → p := by intro k; refine et_1 (i := 10) (by kernel_rfl) ?_; exact k) : p := h k
theorem Z1r {p q : Prop} (k : q) (h : Hid q → p := by intro k; refine et_nil_then (by kernel_rfl) ?_; exact k) : p := h k
theorem Z29 {p q : Prop} (k : q) (h : Hid q → p := by intro k; refine oq (op_move (v := .pointer _) rfl) ?_; exact k) : p := h k
theorem Z5e {p q : Prop} (k : q) (h : Hid q → p := by intro k; refine oq (op_eqnil Try.underlying26 rfl rfl) ?_; exact k) : p := h k
theorem Z5f {p q : Prop} (k : q) (h : Hid q → p := by intro k; refine cd_draw (M := []) mx [] (by kernel_rfl) ?_; exact k) : p := h k
theorem Zi {p q : Prop} (k : q) (h : Hid q → p := by intro k; refine rg_q (wn_none rfl) (op_move (v := .pointer _) rfl) rfl rfl ?_; exact k) : p := h k
theorem Z7z {p q : Prop} (k : q) (h : Hid q → p := by intro k; refine rg_q (wn_none rfl) (op_nilck rfl) rfl rfl ?_; exact k) : p := h k
theorem Z80 {p q : Prop} (k : q) (h : Hid q → p := by intro k; refine rg_q (wn_none rfl) (op_field fld_114_1 rfl) rfl rfl ?_; exact k) : p := h k
theorem Z15 {p q : Prop} (k : q) (h : Hid q → p := by intro k; refine rg_q (wn_none rfl) (op_lda (L := rootC _) 0 ag_24 rfl rfl (rootC_take' _) (by simp [rootC_len])) rfl rfl ?_; exact k) : p := h k
theorem Z4d {p q : Prop} (k : q) (h : Hid q → p := by intro k; refine rg_q (wn_none rfl) (op_move (v := .tuple _) rfl) rfl rfl ?_; exact k) : p := h k
theorem Z7a {p q : Prop} (k : q) (h : Hid q → p := by intro k; refine rg_q (wn_none rfl) (op_extract (v := .int _ _) rfl rfl) rfl rfl ?_; exact k) : p := h k
theorem Z5g {p q : Prop} (k : q) (h : Hid q → p := by intro k; refine rg_q (wn_none rfl) (op_extract (v := .bool _) rfl rfl) rfl rfl ?_; exact k) : p := h k
theorem Z2m {p q : Prop} (k : q) (h : Hid q → p := by intro k; refine rg_q (wn_none rfl) (op_assign (v := .int _ _) rfl) rfl rfl ?_; exact k) : p := h k
theorem Z2n {p q : Prop} (k : q) (h : Hid q → p := by intro k; refine rg_q (wn_none rfl) (op_assign (v := .bool _) rfl) rfl rfl ?_; exact k) : p := h k
theorem Z17 {p q : Prop} (k : q) (h : Hid q → p := by intro k; refine rg_nil_then0 ?_; exact k) : p := h k
theorem Z41 {a0 : Sort _} {q : ∀ (x0 : a0), Prop} {p : Prop} (k : ∀ (x0 : a0), q x0) (h : Hid (∀ (x0 : a0), q x0) → p := by intro k; refine oi (os_alloc (cs := (nodeC Node.zero).toArray) zB_51 (by kernel_rfl)) ?_; rintro _ _ ⟨x0, rfl, rfl⟩; exact k x0) : p := h k
theorem Z34 {p q : Prop} (k : q) (h : Hid q → p := by intro k; refine oN (os_storew (nodeC _) ag_51 rfl rfl (nodeC_len _) (nodeC_one _) (by simp [nodeC_len]) (Free.zero _)) ?_; rintro _ _ ⟨rfl, rfl⟩; exact k) : p := h k
theorem Z18 {p q : Prop} (k : q) (h : Hid q → p := by intro k; refine oq (op_nilck rfl) ?_; exact k) : p := h k
theorem Z7b {p q : Prop} (k : q) (h : Hid q → p := by intro k; refine rg_q (wn_none rfl) (op_ld 0 sc_3 rfl rfl rfl) rfl rfl ?_; exact k) : p := h k
theorem Z5z {p q : Prop} (k : q) (h : Hid q → p := by intro k; refine rg_q (wn_none rfl) (op_sub rfl rfl (by omega) (by omega)) rfl rfl ?_; exact k) : p := h k
theorem Z81 {p q : Prop} (k : q) (h : Hid q → p := by intro k; refine oi (os_call cb_31 rfl (fun w s => Place_calls _ _ _  s )) ?_; rintro _ _ ⟨rfl, rfl⟩; exact k) : p := h k
theorem Z2v {p q : Prop} (k : q) (h : Hid q → p := by intro k; refine oq (op_move (v := .tuple _) rfl) ?_; exact k) : p := h k
theorem Z4e {p q : Prop} (k : q) (h : Hid q → p := by intro k; refine oq (op_extract (v := .bool _) rfl rfl) ?_; exact k) : p := h k
theorem Z4q {p q : Prop} (k : q) (h : Hid q → p := by intro k; refine oq (op_ge rfl rfl) ?_; exact k) : p := h k
theorem Z2y {p q : Prop} (k : q) (h : Hid q → p := by intro k; refine oq (op_not rfl) ?_; exact k) : p := h k
theorem Zg {p q : Prop} (k : q) (h : Hid q → p := by intro k; refine rg_q (wn_none rfl) (op_move (v := .int _ _) rfl) rfl rfl ?_; exact k) : p := h k
theorem Zr {p q : Prop} (k : q) (h : Hid q → p := by intro k; refine ol_pull3 ?_; exact k) : p := h k
theorem Z4r {p q : Prop} (k : q) (h : Hid q → p := by intro k; refine rg_q (wn_none rfl) (op_lt rfl rfl) rfl rfl ?_; exact k) : p := h k
theorem Z4f {p q : Prop} (k : q) (h : Hid q → p := by intro k; refine rg_q (wn_none rfl) (op_move (v := .bool _) rfl) rfl rfl ?_; exact k) : p := h k
theorem Z4z {p q : Prop} (k : q) (h : Hid q → p := by intro k; refine oq (op_field fld_51_0 rfl) ?_; exact k) : p := h k
theorem Z7c {p q : Prop} (k : q) (h : Hid q → p := by intro k; refine oq (op_lda (L := rootC _) 0 ag_24 rfl rfl (nodeC_af0 _) (by simp [nodeC_len])) ?_; exact k) : p := h k
theorem Z82 {p q : Prop} (k : q) (h : Hid q → p := by intro k; refine rg_q (wn_none rfl) (op_ld 0 sc_42 rfl rfl rfl) rfl rfl ?_; exact k) : p := h k
theorem Z7d {p q : Prop} (k : q) (h : Hid q → p := by intro k; refine rg_q (wn_none rfl) (op_field fld_116_0 rfl) rfl rfl ?_; exact k) : p := h k
theorem Z2z {p q : Prop} (k : q) (h : Hid q → p := by intro k; refine e_q 0 rfl (wn_none rfl) (op_move (v := .pointer _) rfl) ?_; exact k) : p := h k
theorem Z7e {p q : Prop} (k : q) (h : Hid q → p := by intro k; refine e_q 2 rfl (wn_none rfl) (op_move (v := .pointer _) rfl) ?_; exact k) : p := h k
theorem Z50 {p q : Prop} (k : q) (h : Hid q → p := by intro k; refine ei_i rfl rfl (wn_none rfl) (os_q (op_ld 0 sc_42 rfl rfl rfl)) rfl ?_; rintro _ _ ⟨rfl, rfl⟩; refine ⟨[_, _, _], rfl, ?_⟩; exact k) : p := h k
theorem Z21 {a0 : Sort _} {q : ∀ (x0 : a0), Prop} {p : Prop} (k : ∀ (x0 : a0), q x0) (h : Hid (∀ (x0 : a0), q x0) → p := by intro k; refine ei_i rfl rfl (wn_none rfl) (os_bslice (E := encI64) [_] (ys := [_]) sB_42 zv_3 rfl rfl rfl rfl (by decide)) rfl ?_; rintro _ _ ⟨x0, rfl, rfl⟩; refine ⟨[_, _, _, _], rfl, ?_⟩; exact k x0) : p := h k
theorem Z2o {a0 : Sort _} {a1 : ∀ (x0 : a0), Sort _} {q : ∀ (x0 : a0) (x1 : a1 x0), Prop} {p : Prop} (k : ∀ (x0 : a0) (x1 : a1 x0), q x0 x1) (h : Hid (∀ (x0 : a0) (x1 : a1 x0), q x0 x1) → p := by intro k; refine ei_i rfl rfl (wn_none rfl) (os_pull2 (os_append (E := encI64) rfl sB_42 zv_3 rfl rfl rfl (fun w s => (rds_row 1 rfl rfl) [] w s) rfl (by simp; omega) (by unfold maxLen; simp; omega))) rfl ?_; rintro _ _ ⟨x0, x1, rfl, rfl⟩; refine ⟨[_, _, _, _], rfl, ?_⟩; exact k x0 x1) : p := h k
theorem Z83 {p q : Prop} (k : q) (h : Hid q → p := by intro k; refine ei_i rfl rfl (wn_none rfl) (os_q (op_ld 2 sc_42 rfl rfl rfl)) rfl ?_; rintro _ _ ⟨rfl, rfl⟩; refine ⟨[_, _, _, _], rfl, ?_⟩; exact k) : p := h k
theorem Z1u {p q : Prop} (k : q) (h : Hid q → p := by intro k; refine et_1 (i := 12) (by kernel_rfl) ?_; exact k) : p := h k
theorem Z1b {a0 : Sort _} {q : ∀ (x0 : a0), Prop} {p : Prop} (k : ∀ (x0 : a0), q x0) (h : Hid (∀ (x0 : a0), q x0) → p := by intro k; refine ei_i rfl rfl (wn_none rfl) (os_bslice (E := encI64) [_] (ys := [_]) sB_42 zv_3 rfl rfl rfl rfl (by decide)) rfl ?_; rintro _ _ ⟨x0, rfl, rfl⟩; refine ⟨[_, _, _, _, _], rfl, ?_⟩; exact k x0) : p := h k
theorem Z4s {p q : Prop} (k : q) (h : Hid q → p := by intro k; refine et_1 (i := 13) (by kernel_rfl) ?_; exact k) : p := h k
theorem Z5h {p q : Prop} (k : q) (h : Hid q → p := by intro k; refine et_1 (i := 16) (by kernel_rfl) ?_; exact k) : p := h k
theorem Z8 {p q : Prop} (k : q) (h : Hid q → p := by intro k; refine et_nil (by kernel_rfl) ?_; exact k) : p := h k
theorem Z3 {p : Prop} (h : p := by repeat (first | exact kept_self | exact kept_over | refine kept_upd rfl ?_ | refine kept_overS (by decide) ?_)) : p := h
theorem Z2d {p q : Prop} (k : q) (h : Hid q → p := by intro k; refine et_1 (i := 11) (by kernel_rfl) ?_; exact k) : p := h k
theorem Z1h {p q : Prop} (k : q) (h : Hid q → p := by intro k; refine ei_i rfl rfl (wn_none rfl) (os_q (op_ld 1 sc_42 rfl rfl rfl)) rfl ?_; rintro _ _ ⟨rfl, rfl⟩; refine ⟨[_, _, _, _], rfl, ?_⟩; exact k) : p := h k
theorem Z3i {p q0 q1 : Prop} (k0 : q0) (k1 : q1) (h : Hid q0 → Hid q1 → p := by intro k0 k1; refine et_2 (i1 := 7) (i2 := 12) (by kernel_rfl) ?_ ?_; exact k0; exact k1) : p := h k0 k1
theorem Z1c {p q : Prop} (k : q) (h : Hid q → p := by intro k; refine et_1 (i := 7) (by kernel_rfl) ?_; exact k) : p := h k
theorem Z5i {a0 : Sort _} {a1 : ∀ (x0 : a0), Sort _} {q : ∀ (x0 : a0) (x1 : a1 x0), Prop} {p : Prop} (k : ∀ (x0 : a0) (x1 : a1 x0), q x0 x1) (h : Hid (∀ (x0 : a0) (x1 : a1 x0), q x0 x1) → p := by intro k; refine ei_i rfl rfl (wn_none rfl) (os_pull3 (os_append (E := encI64) rfl sB_42 zv_3 rfl rfl rfl (fun w s => (rds_row 2 rfl rfl) [] w s) rfl (by simp; omega) (by unfold maxLen; simp; omega))) rfl ?_; rintro _ _ ⟨x0, x1, rfl, rfl⟩; refine ⟨[_, _, _, _, _], rfl, ?_⟩; exact k x0 x1) : p := h k
theorem Z3j {p q0 q1 : Prop} (k0 : q0) (k1 : q1) (h : Hid q0 → Hid q1 → p := by intro k0 k1; refine et_2 (i1 := 7) (i2 := 11) (by kernel_rfl) ?_ ?_; exact k0; exact k1) : p := h k0 k1
theorem Z4t {p q : Prop} (k : q) (h : Hid q → p := by intro k; refine ei_i rfl rfl (wn_none rfl) (os_q (op_ld 2 sc_42 rfl rfl rfl)) rfl ?_; rintro _ _ ⟨rfl, rfl⟩; refine ⟨[_, _, _, _, _], rfl, ?_⟩; exact k) : p := h k
theorem Z5j {a0 : Sort _} {a1 : ∀ (x0 : a0), Sort _} {q : ∀ (x0 : a0) (x1 : a1 x0), Prop} {p : Prop} (k : ∀ (x0 : a0) (x1 : a1 x0), q x0 x1) (h : Hid (∀ (x0 : a0) (x1 : a1 x0), q x0 x1) → p := by intro k; refine ei_i rfl rfl (wn_none rfl) (os_pull3 (os_append (E := encI64) rfl sB_42 zv_3 rfl rfl rfl (fun w s => (rds_row 1 rfl rfl) [] w s) rfl (by simp; omega) (by unfold maxLen; simp; omega))) rfl ?_; rintro _ _ ⟨x0, x1, rfl, rfl⟩; refine ⟨[_, _, _, _, _], rfl, ?_⟩; exact k x0 x1) : p := h k
theorem Z60 {p q : Prop} (k : q) (h : Hid q → p := by intro k; refine et_1 (i := 5) (by kernel_rfl) ?_; exact k) : p := h k
theorem Z0 {p : Prop} (h : p := by repeat (first | exact kept_over | refine kept_upd rfl ?_ | refine kept_overS (by decide) ?_)) : p := h
theorem Z4u {p q : Prop} (k : q) (h : Hid q → p := by intro k; refine oq (op_len_slice Try.underlying42 rfl) ?_; exact k) : p := h k
theorem Z9e {p q : Prop} (k : q) (h : Hid q → p := by intro k; refine rg_iN (wn_none rfl) (os_pull1 (os_stsw  sc_3 rfl rfl rfl (by rw [tab_len]; omega) rfl rfl)) rfl ?_; rintro _ _ ⟨rfl, rfl⟩; refine ⟨[_, _], rfl, ?_⟩; exact k) : p := h k
theorem Z16 {p q : Prop} (k : q) (h : Hid q → p := by intro k; refine cd_region ?_; exact k) : p := h k
theorem Z2p {p q : Prop} (k : q) (h : Hid q → p := by intro k; refine oq (op_sub rfl rfl (by omega) (by omega)) ?_; exact k) : p := h k
theorem Zv {p q : Prop} (k : q) (h : Hid q → p := by intro k; refine oq (op_assign (v := .slice _ _ _) rfl) ?_; exact k) : p := h k
theorem Zp {p q : Prop} (k : q) (h : Hid q → p := by intro k; refine oq (op_move (v := .slice _ _ _) rfl) ?_; exact k) : p := h k
theorem Z84 {p q : Prop} (k : q) (h : Hid q → p := by intro k; refine rg_i (wn_none rfl) (os_call cb_31 rfl (fun w s => Place_calls _ _ _  s )) rfl rfl ?_; rintro _ _ ⟨rfl, rfl⟩; refine ⟨[_], rfl, ?_⟩; exact k) : p := h k
theorem Z51 {p q : Prop} (k : q) (h : Hid q → p := by intro k; refine rg_q (wn_none rfl) (op_move (v := .slice _ _ _) rfl) rfl rfl ?_; exact k) : p := h k
theorem Z61 {p q : Prop} (k : q) (h : Hid q → p := by intro k; refine rg_q (wn_none rfl) (op_add rfl rfl (by omega) (by omega)) rfl rfl ?_; exact k) : p := h k
theorem Z35 {p q : Prop} (k : q) (h : Hid q → p := by intro k; refine oq (op_extract (v := .int _ _) rfl rfl) ?_; exact k) : p := h k
theorem Z2w {p q : Prop} (k : q) (h : Hid q → p := by intro k; refine oq (op_eq rfl rfl) ?_; exact k) : p := h k
theorem Z22 {p q : Prop} (k : q) (h : Hid q → p := by intro k; refine ol_pull6 ?_; exact k) : p := h k
theorem Z8w {p q : Prop} (k : q) (h : Hid q → p := by intro k; refine oN (os_store (v := .slice _ _ _) sc_42 rfl rfl rfl rfl (Free.zero _) rfl) ?_; rintro _ _ ⟨rfl, rfl⟩; exact k) : p := h k
theorem Z4g {p q : Prop} (k : q) (h : Hid q → p := by intro k; refine cd_draw (M := [_]) mx [5] (by kernel_rfl) ?_; exact k) : p := h k
theorem Z62 {p q : Prop} (k : q) (h : Hid q → p := by intro k; refine rg_q (wn_none rfl) (op_ld 1 sc_26 rfl rfl rfl) rfl rfl ?_; exact k) : p := h k
theorem Z7f {p q : Prop} (k : q) (h : Hid q → p := by intro k; refine oq (op_lda (L := rootC _) 1 ag_24 rfl rfl (rootC_take' _) (by simp [rootC_len])) ?_; exact k) : p := h k
theorem Z52 {p q : Prop} (k : q) (h : Hid q → p := by intro k; refine e_q 1 rfl (wn_none rfl) (op_nilck rfl) ?_; exact k) : p := h k
theorem Z53 {p q : Prop} (k : q) (h : Hid q → p := by intro k; refine et_1 (i := 15) (by kernel_rfl) ?_; exact k) : p := h k
theorem Zz {p q : Prop} (k : q) (h : Hid q → p := by intro k; refine et_1 (i := 8) (by kernel_rfl) ?_; exact k) : p := h k
theorem Z85 {p : Prop} (h : p := by exact px_ret2 rfl (v1 := .pointer _) (v2 := .bool _) rfl rfl (fun _ s => (s.del 0)) (.inl ⟨rfl, rfl, by omega⟩)) : p := h
theorem Z86 {a0 : Sort _} {q : ∀ (x0 : a0), Prop} {p : Prop} (k : ∀ (x0 : a0), q x0) (h : Hid (∀ (x0 : a0), q x0) → p := by intro k; refine oi (os_bslice (E := encI64) [_] (ys := [_]) sB_42 zv_3 rfl rfl rfl rfl (by decide)) ?_; rintro _ _ ⟨x0, rfl, rfl⟩; exact k x0) : p := h k
theorem Z63 {p q : Prop} (k : q) (h : Hid q → p := by intro k; refine rg_q (wn_none rfl) (op_field fld_44_0 rfl) rfl rfl ?_; exact k) : p := h k
theorem Z64 {p q : Prop} (k : q) (h : Hid q → p := by intro k; refine rg_q (wn_none rfl) (op_ld 0 sc_37 rfl rfl rfl) rfl rfl ?_; exact k) : p := h k
theorem Z7g {p q : Prop} (k : q) (h : Hid q → p := by intro k; refine cd_drawt (M := [_]) mx [6, 7] 8 (by kernel_rfl) rfl rfl ?_; exact k) : p := h k
theorem Z7h {a0 : Sort _} {q : ∀ (x0 : a0), Prop} {p : Prop} (k : ∀ (x0 : a0), q x0) (h : Hid (∀ (x0 : a0), q x0) → p := by intro k; refine rg_i (wn_none rfl) (os_bslice (E := encRoot) [_] (ys := [_]) sB_37 zv_24 rfl rfl rfl rfl (by decide)) rfl rfl ?_; rintro _ _ ⟨x0, rfl, rfl⟩; refine ⟨[_, _], rfl, ?_⟩; exact k x0) : p := h k
theorem Z9f {a0 : Sort _} {a1 : ∀ (x0 : a0), Sort _} {q : ∀ (x0 : a0) (x1 : a1 x0), Prop} {p : Prop} (k : ∀ (x0 : a0) (x1 : a1 x0), q x0 x1) (h : Hid (∀ (x0 : a0) (x1 : a1 x0), q x0 x1) → p := by intro k; refine rg_i (wn_none rfl) (os_pull1 (os_append (E := encRoot) rfl sB_37 zv_24 rfl rfl rfl (fun w s => (rds_row 1 rfl rfl) [] w s) rfl (by simp; omega) (by unfold maxLen; simp; omega))) rfl rfl ?_; rintro _ _ ⟨x0, x1, rfl, rfl⟩; refine ⟨[_, _], rfl, ?_⟩; exact k x0 x1) : p := h k
theorem Z7i {p q : Prop} (k : q) (h : Hid q → p := by intro k; refine oN (os_store (v := .slice _ _ _) sc_37 rfl rfl rfl rfl (Free.zero _) rfl) ?_; rintro _ _ ⟨rfl, rfl⟩; exact k) : p := h k
theorem Z9g {p q : Prop} (k : q) (h : Hid q → p := by intro k; refine oli_iN (wn_none rfl) (os_storew (nodeC _) ag_51 rfl rfl (nodeC_len _) (nodeC_one _) (by simp [nodeC_len]) (Free.zero _)) ?_; rintro _ _ ⟨rfl, rfl⟩; exact k) : p := h k
theorem Z4v {p q : Prop} (k : q) (h : Hid q → p := by intro k; refine oq (op_extract (v := .pointer _) rfl rfl) ?_; exact k) : p := h k
theorem Z8x {p q : Prop} (k : q) (h : Hid q → p := by intro k; refine e_q 1 rfl (wn_none rfl) (op_lda (L := rootC _) 0 ag_24 rfl rfl (rootC_take' _) (by simp [rootC_len])) ?_; exact k) : p := h k
theorem Z87 {p : Prop} (h : p := by exact px_ret1 rfl (v := .bool _) rfl (fun _ s => s) ⟨congrArg Value.bool (by simp [*]), rfl⟩) : p := h
theorem Z88 {p : Prop} (h : p := by exact px_ret1 rfl (v := .pointer _) rfl (fun _ s => s) (.inl ⟨rfl, rfl, by omega⟩)) : p := h
theorem Z5k {p q : Prop} (k : q) (h : Hid q → p := by intro k; refine e_q 0 rfl (wn_none rfl) (op_move (v := .int _ _) rfl) ?_; exact k) : p := h k
theorem Z65 {a0 : Sort _} {q : ∀ (x0 : a0), Prop} {p : Prop} (k : ∀ (x0 : a0), q x0) (h : Hid (∀ (x0 : a0), q x0) → p := by intro k; refine ei_i rfl rfl (wn_none rfl) (os_make (E := encBool) (_) (false) sB_133 zv_4 rfl rfl rfl (Int.toNat_of_nonneg (by omega)).symm (by omega) (by unfold maxLen; omega)) rfl ?_; rintro _ _ ⟨x0, rfl, rfl⟩; refine ⟨[_, _], rfl, ?_⟩; exact k x0) : p := h k
theorem Z66 {p q : Prop} (k : q) (h : Hid q → p := by intro k; refine e_q 6 rfl (wn_none rfl) (op_build (L := [_, _, _, _]) (vs := [(0, .int _ _), (1, .slice _ _ _), (2, .slice _ _ _), (3, .map _)]) bB_136 rfl ⟨⟨rfl, rfl⟩, ⟨rfl, rfl⟩, ⟨rfl, rfl⟩, ⟨rfl, rfl⟩, trivial⟩ rfl) ?_; exact k) : p := h k
theorem Z3k {a0 : Sort _} {q : ∀ (x0 : a0), Prop} {p : Prop} (k : ∀ (x0 : a0), q x0) (h : Hid (∀ (x0 : a0), q x0) → p := by intro k; refine ei_i rfl rfl (wn_none rfl) (os_boxa rfl) rfl ?_; rintro _ _ ⟨x0, rfl, rfl⟩; refine ⟨[_, _, _, _], rfl, ?_⟩; exact k x0) : p := h k
theorem Z67 {p q : Prop} (k : q) (h : Hid q → p := by intro k; refine e_q 8 rfl (wn_none rfl) (op_assign (v := .pointer _) rfl) ?_; exact k) : p := h k
theorem Z68 {a0 : Sort _} {q : ∀ (x0 : a0), Prop} {p : Prop} (k : ∀ (x0 : a0), q x0) (h : Hid (∀ (x0 : a0), q x0) → p := by intro k; refine ei_i rfl rfl (wn_none rfl) (os_make (E := encBool) (_) (false) sB_133 zv_4 rfl rfl rfl (Int.toNat_of_nonneg (by omega)).symm (by omega) (by unfold maxLen; omega)) rfl ?_; rintro _ _ ⟨x0, rfl, rfl⟩; refine ⟨[_, _, _], rfl, ?_⟩; exact k x0) : p := h k
theorem Z8y {a0 : Sort _} {q : ∀ (x0 : a0), Prop} {p : Prop} (k : ∀ (x0 : a0), q x0) (h : Hid (∀ (x0 : a0), q x0) → p := by intro k; refine ei_i rfl rfl (wn_none rfl) (os_make (E := encBool) (_) (false) sB_133 zv_4 rfl rfl rfl (Int.toNat_of_nonneg (by omega)).symm (by omega) (by unfold maxLen; omega)) rfl ?_; rintro _ _ ⟨x0, rfl, rfl⟩; refine ⟨[_], rfl, ?_⟩; exact k x0) : p := h k
theorem Z9h {a0 : Sort _} {q : ∀ (x0 : a0), Prop} {p : Prop} (k : ∀ (x0 : a0), q x0) (h : Hid (∀ (x0 : a0), q x0) → p := by intro k; refine ei_i rfl rfl (wn_none rfl) (os_make (E := encPtr) (_) (none) sB_132 zv_137 rfl rfl rfl (Int.toNat_of_nonneg (by omega)).symm (by omega) (by unfold maxLen; omega)) rfl ?_; rintro _ _ ⟨x0, rfl, rfl⟩; refine ⟨[_, _], rfl, ?_⟩; exact k x0) : p := h k
theorem Z7j {p q : Prop} (k : q) (h : Hid q → p := by intro k; refine et_1 (i := 2) (by kernel_rfl) ?_; exact k) : p := h k
theorem Z9i {a0 : Sort _} {q : ∀ (x0 : a0), Prop} {p : Prop} (k : ∀ (x0 : a0), q x0) (h : Hid (∀ (x0 : a0), q x0) → p := by intro k; refine ei_i rfl rfl (wn_none rfl) (os_make (E := encPtr) (_) (none) sB_132 zv_137 rfl rfl rfl (Int.toNat_of_nonneg (by omega)).symm (by omega) (by unfold maxLen; omega)) rfl ?_; rintro _ _ ⟨x0, rfl, rfl⟩; refine ⟨[_, _, _], rfl, ?_⟩; exact k x0) : p := h k
theorem Z4w {p q : Prop} (k : q) (h : Hid q → p := by intro k; refine oq (op_field fld_84_0 rfl) ?_; exact k) : p := h k
theorem Z1v {p q : Prop} (k : q) (h : Hid q → p := by intro k; refine rg_q (wn_none rfl) (op_field fld_84_0 rfl) rfl rfl ?_; exact k) : p := h k
theorem Z89 {p q : Prop} (k : q) (h : Hid q → p := by intro k; refine rg_q (wn_none rfl) (op_ld 1 sc_3 rfl rfl (voteC_a0 _)) rfl rfl ?_; exact k) : p := h k
theorem Z8z {p q : Prop} (k : q) (h : Hid q → p := by intro k; refine rg_q (wn_none rfl) (op_quo rfl rfl (by omega) (by omega) (by omega)) rfl rfl ?_; exact k) : p := h k
theorem Z8a {p q : Prop} (k : q) (h : Hid q → p := by intro k; refine rg_q (wn_none rfl) (op_field fld_136_3 rfl) rfl rfl ?_; exact k) : p := h k
theorem Z5l {p q : Prop} (k : q) (h : Hid q → p := by intro k; refine cd_drawt (M := []) mx [] 7 (by kernel_rfl) rfl rfl ?_; exact k) : p := h k
theorem Z8b {p q : Prop} (k : q) (h : Hid q → p := by intro k; refine rg_q (wn_none rfl) (op_field fld_84_2 rfl) rfl rfl ?_; exact k) : p := h k
theorem Z8c {p q : Prop} (k : q) (h : Hid q → p := by intro k; refine rg_q (wn_none rfl) (op_field fld_136_1 rfl) rfl rfl ?_; exact k) : p := h k
theorem Z4h {p q : Prop} (k : q) (h : Hid q → p := by intro k; refine rg_q (wn_none rfl) (op_assign (v := .pointer _) rfl) rfl rfl ?_; exact k) : p := h k
theorem Z3l {p q : Prop} (k : q) (h : Hid q → p := by intro k; refine rg_skip (wn_some rfl rfl rfl rfl rfl) rfl ?_; exact k) : p := h k
theorem Z54 {p q : Prop} (k : q) (h : Hid q → p := by intro k; refine oq (op_field fld_84_2 rfl) ?_; exact k) : p := h k
theorem Z4i {p q : Prop} (k : q) (h : Hid q → p := by intro k; refine rg_q (wn_none rfl) (op_ld 3 sc_3 rfl rfl (voteC_a0 _)) rfl rfl ?_; exact k) : p := h k
theorem Z7k {p q : Prop} (k : q) (h : Hid q → p := by intro k; refine rg_q (wn_none rfl) (op_index _ sB_133 rfl rfl (Int.toNat_of_nonneg (by omega)).symm (rds_row 5 rfl rfl) rfl (by omega)) rfl rfl ?_; exact k) : p := h k
theorem Z8d {p q : Prop} (k : q) (h : Hid q → p := by intro k; refine oN (os_stsw  sc_4 rfl rfl rfl (by omega) rfl rfl) ?_; rintro _ _ ⟨rfl, rfl⟩; exact k) : p := h k
theorem Z8e {a0 : Sort _} {q : ∀ (x0 : a0), Prop} {p : Prop} (k : ∀ (x0 : a0), q x0) (h : Hid (∀ (x0 : a0), q x0) → p := by intro k; refine oi (os_alloc (cs := (voteC Vote.zero).toArray) zB_84 (by kernel_rfl)) ?_; rintro _ _ ⟨x0, rfl, rfl⟩; exact k x0) : p := h k
theorem Z69 {p q : Prop} (k : q) (h : Hid q → p := by intro k; refine oN (os_storew (voteC _) ag_84 rfl rfl (voteC_len _) (voteC_one _) (by simp [voteC_len]) (Free.zero _)) ?_; rintro _ _ ⟨rfl, rfl⟩; exact k) : p := h k
theorem Z8f {p : Prop} (h : p := by exact px_ret2 rfl (v1 := .pointer _) (v2 := .bool _) rfl rfl (fun _ s => s) (.inl ⟨rfl, rfl, by omega⟩)) : p := h
theorem Z6a {p q : Prop} (k : q) (h : Hid q → p := by intro k; refine e_q 8 rfl (wn_none rfl) (op_build (L := [_, _, _, _, _, _]) (vs := [(0, .int _ _), (1, .int _ _), (3, .slice _ _ _), (4, .slice _ _ _), (5, .slice _ _ _)]) bB_153 rfl ⟨⟨rfl, rfl⟩, ⟨rfl, rfl⟩, ⟨rfl, rfl⟩, ⟨rfl, rfl⟩, ⟨rfl, rfl⟩, trivial⟩ rfl) ?_; exact k) : p := h k
theorem Z23 {p q : Prop} (k : q) (h : Hid q → p := by intro k; refine et_1 (i := 9) (by kernel_rfl) ?_; exact k) : p := h k
theorem Z6b {p q : Prop} (k : q) (h : Hid q → p := by intro k; refine e_q 10 rfl (wn_none rfl) (op_assign (v := .pointer _) rfl) ?_; exact k) : p := h k
theorem Z6c {p q : Prop} (k : q) (h : Hid q → p := by intro k; refine e_q 11 rfl (wn_none rfl) (op_assign (v := .bool _) rfl) ?_; exact k) : p := h k
theorem Z9j {a0 : Sort _} {q : ∀ (x0 : a0), Prop} {p : Prop} (k : ∀ (x0 : a0), q x0) (h : Hid (∀ (x0 : a0), q x0) → p := by intro k; refine ei_i rfl rfl (wn_none rfl) (os_make (E := encVote) (_) (Vote.zero) sB_151 zv_84 rfl rfl rfl (Int.toNat_of_nonneg (by omega)).symm (by omega) (by unfold maxLen; omega)) rfl ?_; rintro _ _ ⟨x0, rfl, rfl⟩; refine ⟨[_, _], rfl, ?_⟩; exact k x0) : p := h k
theorem Z9k {a0 : Sort _} {q : ∀ (x0 : a0), Prop} {p : Prop} (k : ∀ (x0 : a0), q x0) (h : Hid (∀ (x0 : a0), q x0) → p := by intro k; refine ei_i rfl rfl (wn_none rfl) (os_make (E := encVote) (_) (Vote.zero) sB_151 zv_84 rfl rfl rfl (Int.toNat_of_nonneg (by omega)).symm (by omega) (by unfold maxLen; omega)) rfl ?_; rintro _ _ ⟨x0, rfl, rfl⟩; refine ⟨[_, _, _], rfl, ?_⟩; exact k x0) : p := h k
theorem Z5m {p q : Prop} (k : q) (h : Hid q → p := by intro k; refine oq (op_ld 2 sc_3 rfl rfl (voteC_a0 _)) ?_; exact k) : p := h k
theorem Z55 {p q : Prop} (k : q) (h : Hid q → p := by intro k; refine rg_q (wn_none rfl) (op_lda (L := voteC _) 3 ag_84 rfl rfl (voteC_ta _) (by simp [voteC_len])) rfl rfl ?_; exact k) : p := h k
theorem Z90 {p : Prop} (h : p := by exact px_ret1 rfl (v := .bool _) rfl (fun _ s => (s.del 0)) ⟨congrArg Value.bool (by unfold valOK; (try unfold inR); rw [Bool.eq_iff_iff]; simp; omega), rfl⟩) : p := h
theorem Z3m {p q : Prop} (k : q) (h : Hid q → p := by intro k; refine oq (op_len_slice Try.underlying63 rfl) ?_; exact k) : p := h k
theorem Z6d {a0 : Sort _} {q : ∀ (x0 : a0), Prop} {p : Prop} (k : ∀ (x0 : a0), q x0) (h : Hid (∀ (x0 : a0), q x0) → p := by intro k; refine oi (os_alloc (cs := (valC Val.zero).toArray) zB_78 (by kernel_rfl)) ?_; rintro _ _ ⟨x0, rfl, rfl⟩; exact k x0) : p := h k
theorem Z6e {p q : Prop} (k : q) (h : Hid q → p := by intro k; refine oN (os_storew (valC _) ag_78 rfl rfl (valC_len _) (valC_one _) (by simp [valC_len]) (Free.zero _)) ?_; rintro _ _ ⟨rfl, rfl⟩; exact k) : p := h k
theorem Z6f {p : Prop} (h : p := by exact px_ret2 rfl (v1 := .int _ _) (v2 := .bool _) rfl rfl (fun _ s => (s.del 0)) ⟨rfl, rfl⟩) : p := h
theorem Z36 {p q : Prop} (k : q) (h : Hid q → p := by intro k; refine oq (op_field fld_65_0 rfl) ?_; exact k) : p := h k
theorem Z6g {p q : Prop} (k : q) (h : Hid q → p := by intro k; refine oq (op_ld 0 sc_63 rfl rfl (cfgC_a0 _)) ?_; exact k) : p := h k
theorem Z3n {p q : Prop} (k : q) (h : Hid q → p := by intro k; refine oq (op_assign (v := .string _) rfl) ?_; exact k) : p := h k
theorem Z7l {p q : Prop} (k : q) (h : Hid q → p := by intro k; refine e_q 5 rfl (wn_none rfl) (op_move (v := .int _ _) rfl) ?_; exact k) : p := h k
theorem Z91 {p q : Prop} (k : q) (h : Hid q → p := by intro k; refine ei_i rfl rfl (wn_none rfl) (os_q (op_b2s sB_162 Try.underlying5 Try.underlying9 rfl (rds_row 0 rfl rfl) rfl)) rfl ?_; rintro _ _ ⟨rfl, rfl⟩; refine ⟨[_], rfl, ?_⟩; exact k) : p := h k
theorem Z8g {p q : Prop} (k : q) (h : Hid q → p := by intro k; refine ei_i rfl rfl (wn_none rfl) (os_call cb_95 rfl (fun w s => In_calls (b := 64) _  s )) rfl ?_; rintro _ _ ⟨rfl, rfl⟩; refine ⟨[], rfl, ?_⟩; exact k) : p := h k
theorem Z3o {p q : Prop} (k : q) (h : Hid q → p := by intro k; refine oq (op_lda (L := cfgC _) 0 ag_65 rfl rfl (cfgC_ta _) (by simp [cfgC_len])) ?_; exact k) : p := h k
theorem Z7m {a0 : Sort _} {q : ∀ (x0 : a0), Prop} {p : Prop} (k : ∀ (x0 : a0), q x0) (h : Hid (∀ (x0 : a0), q x0) → p := by intro k; refine oi (os_alloc (cs := (wC (List.replicate 64 0)).toArray) zB_168 (by kernel_rfl)) ?_; rintro _ _ ⟨x0, rfl, rfl⟩; exact k x0) : p := h k
theorem Z7n {p q : Prop} (k : q) (h : Hid q → p := by intro k; refine rg_q (wn_none rfl) (op_mul rfl rfl (by omega) (by omega)) rfl rfl ?_; exact k) : p := h k
theorem Z7o {p q : Prop} (k : q) (h : Hid q → p := by intro k; refine rg_q (wn_none rfl) (op_conv32 Try.underlying163 (by rw [Try.underlying5]; rfl) rfl) rfl rfl ?_; exact k) : p := h k
theorem Z7p {p q : Prop} (k : q) (h : Hid q → p := by intro k; refine ei_i rfl rfl (wn_none rfl) (os_call cb_120 rfl (fun w s => turn_calls (k := 7) _  s (by decide) (by decide))) rfl ?_; rintro _ _ ⟨rfl, rfl⟩; refine ⟨[_], rfl, ?_⟩; exact k) : p := h k
theorem Z1p {p q : Prop} (k : q) (h : Hid q → p := by intro k; refine e_q 13 rfl (wn_none rfl) (op_add32 _ _ rfl rfl) ?_; exact k) : p := h k
theorem Z24 {p q : Prop} (k : q) (h : Hid q → p := by intro k; refine e_q 18 rfl (wn_none rfl) (op_add32 _ _ rfl rfl) ?_; exact k) : p := h k
theorem Z5n {p q : Prop} (k : q) (h : Hid q → p := by intro k; refine et_1 (i := 20) (by kernel_rfl) ?_; exact k) : p := h k
theorem Z56 {p q : Prop} (k : q) (h : Hid q → p := by intro k; refine ei_i rfl rfl (wn_none rfl) (os_call cb_120 rfl (fun w s => turn_calls (k := 17) _  s (by decide) (by decide))) rfl ?_; rintro _ _ ⟨rfl, rfl⟩; refine ⟨[_], rfl, ?_⟩; exact k) : p := h k
theorem Z4j {p q : Prop} (k : q) (h : Hid q → p := by intro k; refine ei_i rfl rfl (wn_none rfl) (os_call cb_120 rfl (fun w s => turn_calls (k := 19) _  s (by decide) (by decide))) rfl ?_; rintro _ _ ⟨rfl, rfl⟩; refine ⟨[_], rfl, ?_⟩; exact k) : p := h k
theorem Z1w {p q : Prop} (k : q) (h : Hid q → p := by intro k; refine e_q 27 rfl (wn_none rfl) (op_add32 _ _ rfl rfl) ?_; exact k) : p := h k
theorem Z9 {p q : Prop} (k : q) (h : Hid q → p := by intro k; refine et_1 (i := 29) (by kernel_rfl) ?_; exact k) : p := h k
theorem Z6h {p q0 q1 : Prop} (k0 : q0) (k1 : q1) (h : Hid q0 → Hid q1 → p := by intro k0 k1; refine et_2 (i1 := 4) (i2 := 20) (by kernel_rfl) ?_ ?_; exact k0; exact k1) : p := h k0 k1
theorem Z57 {p q0 q1 : Prop} (k0 : q0) (k1 : q1) (h : Hid q0 → Hid q1 → p := by intro k0 k1; refine et_2 (i1 := 4) (i2 := 22) (by kernel_rfl) ?_ ?_; exact k0; exact k1) : p := h k0 k1
theorem Z6i {a0 : Sort _} {q : ∀ (x0 : a0), Prop} {p : Prop} (k : ∀ (x0 : a0), q x0) (h : Hid (∀ (x0 : a0), q x0) → p := by intro k; refine ei_i rfl rfl (wn_none rfl) (os_alloc (cs := (wC (List.replicate 64 0)).toArray) zB_168 (by kernel_rfl)) rfl ?_; rintro _ _ ⟨x0, rfl, rfl⟩; refine ⟨[_], rfl, ?_⟩; exact k x0) : p := h k
theorem Z1i {a0 : Sort _} {q : ∀ (x0 : a0), Prop} {p : Prop} (k : ∀ (x0 : a0), q x0) (h : Hid (∀ (x0 : a0), q x0) → p := by intro k; refine ei_i rfl rfl (wn_none rfl) (os_alloc (cs := (wC (List.replicate 64 0)).toArray) zB_168 (by kernel_rfl)) rfl ?_; rintro _ _ ⟨x0, rfl, rfl⟩; refine ⟨[_, _], rfl, ?_⟩; exact k x0) : p := h k
theorem Z25 {a0 : Sort _} {q : ∀ (x0 : a0), Prop} {p : Prop} (k : ∀ (x0 : a0), q x0) (h : Hid (∀ (x0 : a0), q x0) → p := by intro k; refine ei_i rfl rfl (wn_none rfl) (os_alloc (cs := (wC (List.replicate 8 0)).toArray) zB_164 (by kernel_rfl)) rfl ?_; rintro _ _ ⟨x0, rfl, rfl⟩; refine ⟨[_, _, _], rfl, ?_⟩; exact k x0) : p := h k
theorem Z3p {a0 : Sort _} {q : ∀ (x0 : a0), Prop} {p : Prop} (k : ∀ (x0 : a0), q x0) (h : Hid (∀ (x0 : a0), q x0) → p := by intro k; refine ei_i rfl rfl (wn_none rfl) (os_alloc (cs := (wC (List.replicate 8 0)).toArray) zB_164 (by kernel_rfl)) rfl ?_; rintro _ _ ⟨x0, rfl, rfl⟩; refine ⟨[_, _], rfl, ?_⟩; exact k x0) : p := h k
theorem Z2j {a0 : Sort _} {q : ∀ (x0 : a0), Prop} {p : Prop} (k : ∀ (x0 : a0), q x0) (h : Hid (∀ (x0 : a0), q x0) → p := by intro k; refine ei_i rfl rfl (wn_none rfl) (os_alloc (cs := (wC (List.replicate 64 0)).toArray) zB_168 (by kernel_rfl)) rfl ?_; rintro _ _ ⟨x0, rfl, rfl⟩; refine ⟨[_, _, _], rfl, ?_⟩; exact k x0) : p := h k
theorem Z92 {a0 : Sort _} {q : ∀ (x0 : a0), Prop} {p : Prop} (k : ∀ (x0 : a0), q x0) (h : Hid (∀ (x0 : a0), q x0) → p := by intro k; refine ei_i rfl rfl (wn_none rfl) (os_alloc (cs := (wC (List.replicate 8 0)).toArray) zB_164 (by kernel_rfl)) rfl ?_; rintro _ _ ⟨x0, rfl, rfl⟩; refine ⟨[_], rfl, ?_⟩; exact k x0) : p := h k
theorem Z6j {p q : Prop} (k : q) (h : Hid q → p := by intro k; refine ei_i rfl rfl (wn_none rfl) (os_call cb_119 rfl (fun w s => keys_calls  s )) rfl ?_; rintro _ _ ⟨rfl, rfl⟩; refine ⟨[_], rfl, ?_⟩; exact k) : p := h k
theorem Z6k {p q0 q1 : Prop} (k0 : q0) (k1 : q1) (h : Hid q0 → Hid q1 → p := by intro k0 k1; refine et_2 (i1 := 2) (i2 := 9) (by kernel_rfl) ?_ ?_; exact k0; exact k1) : p := h k0 k1
theorem Z2e {p q : Prop} (k : q) (h : Hid q → p := by intro k; refine ei_i rfl rfl (wn_none rfl) (os_call cb_119 rfl (fun w s => keys_calls  s )) rfl ?_; rintro _ _ ⟨rfl, rfl⟩; refine ⟨[_, _], rfl, ?_⟩; exact k) : p := h k
theorem Z6l {p q0 q1 : Prop} (k0 : q0) (k1 : q1) (h : Hid q0 → Hid q1 → p := by intro k0 k1; refine et_2 (i1 := 2) (i2 := 8) (by kernel_rfl) ?_ ?_; exact k0; exact k1) : p := h k0 k1
theorem Z6m {p q0 q1 : Prop} (k0 : q0) (k1 : q1) (h : Hid q0 → Hid q1 → p := by intro k0 k1; refine et_2 (i1 := 2) (i2 := 7) (by kernel_rfl) ?_ ?_; exact k0; exact k1) : p := h k0 k1
theorem Z58 {p q : Prop} (k : q) (h : Hid q → p := by intro k; refine et_1 (i := 1) (by kernel_rfl) ?_; exact k) : p := h k
theorem Z9l {p q : Prop} (k : q) (h : Hid q → p := by intro k; refine oN (os_store (v := .int _ _) sc_163 rfl rfl rfl (Nat.ble_eq_true_of_le (by simp [wC_len] <;> omega)) (Free.zero _) (wC_set0 _)) ?_; rintro _ _ ⟨rfl, rfl⟩; exact k) : p := h k
theorem Z42 {p q : Prop} (k : q) (h : Hid q → p := by intro k; refine oq (op_move (v := .string _) rfl) ?_; exact k) : p := h k
theorem Z7q {p q : Prop} (k : q) (h : Hid q → p := by intro k; refine oN (os_store (v := .slice _ _ _) sc_162 rfl rfl rfl (by simp [stC_len]) (Free.zero _) (stC_s8 _ ⟨_, _, _⟩)) ?_; rintro _ _ ⟨rfl, rfl⟩; exact k) : p := h k
theorem Z9m {p q : Prop} (k : q) (h : Hid q → p := by intro k; refine oi (os_call cb_115 rfl (fun w s => take_calls _ _ _ _ _  s ((rds_row 0 rfl rfl).take 64) (by rw [List.length_take]; omega))) ?_; rintro _ _ ⟨rfl, rfl⟩; exact k) : p := h k
theorem Z9n {p q : Prop} (k : q) (h : Hid q → p := by intro k; refine ei_iN rfl rfl (wn_none rfl) (os_pull2 (os_store (v := .slice _ _ _) sc_162 rfl rfl rfl (by simp [stC_len]) (Free.zero _) (stC_s8 _ ⟨_, _, _⟩))) ?_; rintro _ _ ⟨rfl, rfl⟩; refine ⟨[_, _, _], rfl, ?_⟩; exact k) : p := h k
theorem Z6n {p q : Prop} (k : q) (h : Hid q → p := by intro k; refine oq (op_mul rfl rfl (by omega) (by omega)) ?_; exact k) : p := h k
theorem Z7r {p q : Prop} (k : q) (h : Hid q → p := by intro k; refine oq (op_conv8 Try.underlying5 (by rw [Try.underlying163]; rfl) rfl) ?_; exact k) : p := h k
theorem Z5o {p q : Prop} (k : q) (h : Hid q → p := by intro k; refine oq (op_shr_nat (m := 32) rfl rfl (by decide)) ?_; exact k) : p := h k
theorem Z5p {p q : Prop} (k : q) (h : Hid q → p := by intro k; refine e_q 9 rfl (wn_none rfl) (op_add32 _ _ rfl rfl) ?_; exact k) : p := h k
theorem Z7s {p q : Prop} (k : q) (h : Hid q → p := by intro k; refine ei_i rfl rfl (wn_none rfl) (os_call cb_114 rfl (fun w s => right_calls (k := 7) _  s (by decide) (by decide))) rfl ?_; rintro _ _ ⟨rfl, rfl⟩; refine ⟨[_], rfl, ?_⟩; exact k) : p := h k
theorem Z59 {p q : Prop} (k : q) (h : Hid q → p := by intro k; refine ei_i rfl rfl (wn_none rfl) (os_call cb_114 rfl (fun w s => right_calls (k := 17) _  s (by decide) (by decide))) rfl ?_; rintro _ _ ⟨rfl, rfl⟩; refine ⟨[_], rfl, ?_⟩; exact k) : p := h k
theorem Z4k {p q : Prop} (k : q) (h : Hid q → p := by intro k; refine ei_i rfl rfl (wn_none rfl) (os_call cb_114 rfl (fun w s => right_calls (k := 19) _  s (by decide) (by decide))) rfl ?_; rintro _ _ ⟨rfl, rfl⟩; refine ⟨[_], rfl, ?_⟩; exact k) : p := h k
theorem Z7t {p q : Prop} (k : q) (h : Hid q → p := by intro k; refine cd_draw (M := []) mx [5] (by kernel_rfl) ?_; exact k) : p := h k
theorem Z8h {p q : Prop} (k : q) (h : Hid q → p := by intro k; refine rg_q (wn_none rfl) (op_field fld_131_1 rfl) rfl rfl ?_; exact k) : p := h k
theorem Z8i {p q : Prop} (k : q) (h : Hid q → p := by intro k; refine rg_q (wn_none rfl) (op_field fld_131_2 rfl) rfl rfl ?_; exact k) : p := h k
theorem Z8j {p q : Prop} (k : q) (h : Hid q → p := by intro k; refine rg_q (wn_none rfl) (op_ld 1 sc_27 rfl rfl rfl) rfl rfl ?_; exact k) : p := h k
theorem Z5a {p q : Prop} (k : q) (h : Hid q → p := by intro k; refine oq (op_eqnil Try.underlying67 rfl rfl) ?_; exact k) : p := h k
theorem Z9o {p q : Prop} (k : q) (h : Hid q → p := by intro k; refine ei_i rfl rfl (wn_none rfl) (os_back (os_pull2 (os_call cb_31 rfl (fun w s => Place_calls _ _ _  s ))) (fun _ s => (((((s.pull 4).pull 4).pull 2).pull 4).pull 4))) rfl ?_; rintro _ _ ⟨rfl, rfl⟩; refine ⟨[], rfl, ?_⟩; exact k) : p := h k
theorem Z6o {p q : Prop} (k : q) (h : Hid q → p := by intro k; refine e_q 12 rfl (wn_none rfl) (op_move (v := .tuple _) rfl) ?_; exact k) : p := h k
theorem Z6p {p q : Prop} (k : q) (h : Hid q → p := by intro k; refine e_q 13 rfl (wn_none rfl) (op_extract (v := .agg _) rfl rfl) ?_; exact k) : p := h k
theorem Z6q {p q : Prop} (k : q) (h : Hid q → p := by intro k; refine e_q 14 rfl (wn_none rfl) (op_extract (v := .bool _) rfl rfl) ?_; exact k) : p := h k
theorem Z6r {a0 : Sort _} {q : ∀ (x0 : a0), Prop} {p : Prop} (k : ∀ (x0 : a0), q x0) (h : Hid (∀ (x0 : a0), q x0) → p := by intro k; refine ei_i rfl rfl (wn_none rfl) (os_alloc (cs := (nodeC Node.zero).toArray) zB_51 (by kernel_rfl)) rfl ?_; rintro _ _ ⟨x0, rfl, rfl⟩; refine ⟨[_], rfl, ?_⟩; exact k x0) : p := h k
theorem Z6s {p q : Prop} (k : q) (h : Hid q → p := by intro k; refine ei_iN rfl rfl (wn_none rfl) (os_storew (nodeC _) ag_51 rfl rfl (nodeC_len _) (nodeC_one _) (by simp [nodeC_len]) (Free.zero _)) ?_; rintro _ _ ⟨rfl, rfl⟩; refine ⟨[_], rfl, ?_⟩; exact k) : p := h k
theorem Z6t {p q : Prop} (k : q) (h : Hid q → p := by intro k; refine e_q 17 rfl (wn_none rfl) (op_assign (v := .bool _) rfl) ?_; exact k) : p := h k
theorem Z6u {p : Prop} (h : p := by exact px_ret1 rfl (v := .int _ _) rfl (fun _ s => ((s.del 1).del 0)) ⟨rfl, rfl⟩) : p := h
theorem Z9p {p q : Prop} (k : q) (h : Hid q → p := by intro k; refine ei_i rfl rfl (wn_none rfl) (os_back (os_pull3 (os_call cb_31 rfl (fun w s => Place_calls _ _ _  s ))) (fun _ s => ((((((s.pull 5).pull 5).pull 2).pull 5).pull 5).pull 5))) rfl ?_; rintro _ _ ⟨rfl, rfl⟩; refine ⟨[_], rfl, ?_⟩; exact k) : p := h k
theorem Z93 {p q : Prop} (k : q) (h : Hid q → p := by intro k; refine ei_i rfl rfl (wn_none rfl) (os_back (os_pull5 (os_call cb_41 rfl (fun w s => TVote_calls _ _ _  s ))) (fun _ s => (((((s.pull 5).pull 5).pull 5).pull 5).pull 5))) rfl ?_; rintro _ _ ⟨rfl, rfl⟩; refine ⟨[], rfl, ?_⟩; exact k) : p := h k
theorem Z6v {p q : Prop} (k : q) (h : Hid q → p := by intro k; refine e_q 7 rfl (wn_none rfl) (op_move (v := .tuple _) rfl) ?_; exact k) : p := h k
theorem Z6w {p q : Prop} (k : q) (h : Hid q → p := by intro k; refine e_q 8 rfl (wn_none rfl) (op_extract (v := .agg _) rfl rfl) ?_; exact k) : p := h k
theorem Z6x {p q : Prop} (k : q) (h : Hid q → p := by intro k; refine e_q 9 rfl (wn_none rfl) (op_extract (v := .bool _) rfl rfl) ?_; exact k) : p := h k
theorem Z6y {a0 : Sort _} {q : ∀ (x0 : a0), Prop} {p : Prop} (k : ∀ (x0 : a0), q x0) (h : Hid (∀ (x0 : a0), q x0) → p := by intro k; refine ei_i rfl rfl (wn_none rfl) (os_alloc (cs := (voteC Vote.zero).toArray) zB_84 (by kernel_rfl)) rfl ?_; rintro _ _ ⟨x0, rfl, rfl⟩; refine ⟨[_], rfl, ?_⟩; exact k x0) : p := h k
theorem Z6z {p q : Prop} (k : q) (h : Hid q → p := by intro k; refine ei_iN rfl rfl (wn_none rfl) (os_storew (voteC _) ag_84 rfl rfl (voteC_len _) (voteC_one _) (by simp [voteC_len]) (Free.zero _)) ?_; rintro _ _ ⟨rfl, rfl⟩; refine ⟨[_], rfl, ?_⟩; exact k) : p := h k
theorem Z70 {p q : Prop} (k : q) (h : Hid q → p := by intro k; refine e_q 12 rfl (wn_none rfl) (op_assign (v := .bool _) rfl) ?_; exact k) : p := h k
theorem Z71 {p q : Prop} (k : q) (h : Hid q → p := by intro k; refine oq (op_lda (L := rootC _) 0 ag_24 rfl rfl (voteC_af2 _) (by simp [voteC_len])) ?_; exact k) : p := h k
theorem Z72 {p q : Prop} (k : q) (h : Hid q → p := by intro k; refine rg_q (wn_none rfl) (op_field fld_131_3 rfl) rfl rfl ?_; exact k) : p := h k
theorem Z73 {p q : Prop} (k : q) (h : Hid q → p := by intro k; refine rg_q (wn_none rfl) (op_ld 0 sc_79 rfl rfl rfl) rfl rfl ?_; exact k) : p := h k
theorem Z74 {p q : Prop} (k : q) (h : Hid q → p := by intro k; refine rg_i (wn_none rfl) (os_call cb_74 rfl (fun w s => Take_calls _ _ _  s )) rfl rfl ?_; rintro _ _ ⟨rfl, rfl⟩; refine ⟨[_], rfl, ?_⟩; exact k) : p := h k
theorem Z75 {p q : Prop} (k : q) (h : Hid q → p := by intro k; refine cd_draw (M := [_, _, _]) mx [8, 9] (by kernel_rfl) ?_; exact k) : p := h k
theorem Z3q {p : Prop} (h : p := by exact px_ret1 rfl (v := .int _ _) rfl (fun _ s => (((s.del 6).del 5).del 4)) ⟨rfl, rfl⟩) : p := h
theorem Z76 {p : Prop} (h : p := by exact px_ret1 rfl (v := .int _ _) rfl (fun _ s => ((((((s.del 4).del 3).del 2).pull 3).pull 3).pull 3)) ⟨rfl, rfl⟩) : p := h
theorem Z94 {p q : Prop} (k : q) (h : Hid q → p := by intro k; refine ei_i rfl rfl (wn_none rfl) (os_back (os_pull6 (os_call cb_41 rfl (fun w s => TVote_calls _ _ _  s ))) (fun _ s => ((((((s.pull 6).pull 6).pull 6).pull 6).pull 6).pull 6))) rfl ?_; rintro _ _ ⟨rfl, rfl⟩; refine ⟨[_], rfl, ?_⟩; exact k) : p := h k
theorem Z5b {p q : Prop} (k : q) (h : Hid q → p := by intro k; refine rg_q (wn_none rfl) (op_extract (v := .pointer _) rfl rfl) rfl rfl ?_; exact k) : p := h k
theorem Z7u {p q : Prop} (k : q) (h : Hid q → p := by intro k; refine rg_q (wn_none rfl) (op_field fld_47_0 rfl) rfl rfl ?_; exact k) : p := h k
theorem Z77 {p q : Prop} (k : q) (h : Hid q → p := by intro k; refine rg_q (wn_none rfl) (op_ld 1 sc_45 rfl rfl rfl) rfl rfl ?_; exact k) : p := h k
theorem Z8k {p q : Prop} (k : q) (h : Hid q → p := by intro k; refine rg_q (wn_none rfl) (op_field fld_127_1 rfl) rfl rfl ?_; exact k) : p := h k
theorem Z9q {p q : Prop} (k : q) (h : Hid q → p := by intro k; refine ei_i rfl rfl (wn_none rfl) (os_pull4 (os_call cb_48 rfl (fun w s => RAdd_calls _ _ _ _ _  s ))) rfl ?_; rintro _ _ ⟨rfl, rfl⟩; refine ⟨[_, _, _, _, _], rfl, ?_⟩; exact k) : p := h k
theorem Z9r {p : Prop} (h : p := by exact px_ret1 rfl (v := .bool _) rfl (fun _ s => (((((((((s.del 6).del 5).pull 6).pull 1).pull 6).pull 6).pull 6).pull 6).pull 6)) ⟨_, _, _, congrArg Value.bool (by simp), rfl⟩) : p := h
theorem Z9s {p q : Prop} (k : q) (h : Hid q → p := by intro k; refine oq (op_build (L := voteC _) (vs := [(0, .int _ _), (1, .int _ _), (2, .agg (rootC _).toArray)]) bB_84 rfl ⟨⟨rfl, by rw [voteC_len]; rfl⟩, ⟨rfl, by rw [voteC_len]; rfl⟩, ⟨by simp [Value.cells, rootC_len], by rw [voteC_len]; rfl⟩, trivial⟩ ((voteC_b0 _ _ _).trans ((voteC_b1 _ _ _).trans ((voteC_b2 _ _ _).trans rfl)))) ?_; exact k) : p := h k
theorem Z8l {p q : Prop} (k : q) (h : Hid q → p := by intro k; refine rg_q (wn_none rfl) (op_lda (L := voteC _) 0 ag_84 rfl rfl (voteC_ta _) (by simp [voteC_len])) rfl rfl ?_; exact k) : p := h k
theorem Z9t {p q : Prop} (k : q) (h : Hid q → p := by intro k; refine rg_i (wn_none rfl) (os_pull4 (os_pull5 (os_pull6 (os_call cb_68 rfl (fun w s => RBTake_calls _ _ _ _ _ _ _ _ _ _ _ _ _ _ _ _ _ _ _ _  s ))))) rfl rfl ?_; rintro _ _ ⟨rfl, rfl⟩; refine ⟨[_, _, _, _, _, _, _], rfl, ?_⟩; exact k) : p := h k
theorem Z78 {p q : Prop} (k : q) (h : Hid q → p := by intro k; refine rg_q (wn_none rfl) (op_eq rfl rfl) rfl rfl ?_; exact k) : p := h k
theorem Z9u {p : Prop} (h : p := by exact px_ret1 rfl (v := .bool _) rfl (fun _ s => ((((((((((s.del 9).del 8).del 7).pull 2).pull 2).pull 2).pull 6).pull 6).pull 6).pull 6)) ⟨_, _, _, congrArg Value.bool (by simp), rfl⟩) : p := h
theorem Z8m {p q : Prop} (k : q) (h : Hid q → p := by intro k; refine cd_draw (M := [_, _, _, _, _]) mx [2, 5] (by kernel_rfl) ?_; exact k) : p := h k
theorem Z8n {p : Prop} (h : p := by exact px_ret1 rfl (v := .bool _) rfl (fun _ s => (((((((((s.del 6).del 5).pull 6).pull 2).pull 2).pull 6).pull 6).pull 6).pull 6)) ⟨_, _, _, congrArg Value.bool (by simp), rfl⟩) : p := h
theorem Z9v {p q : Prop} (k : q) (h : Hid q → p := by intro k; refine rg_i (wn_none rfl) (os_call cb_71 rfl (fun w s => RForget_calls _ _ _  s (by omega))) rfl rfl ?_; rintro _ _ ⟨rfl, rfl⟩; refine ⟨[_], rfl, ?_⟩; exact k) : p := h k
theorem Z9w {p : Prop} (h : p := by exact px_ret1 rfl (v := .bool _) rfl (fun _ s => ((((((((s.del 4).del 3).pull 6).pull 6).pull 4).pull 6).pull 6).pull 6)) ⟨_, _, _, congrArg Value.bool (by simp), rfl⟩) : p := h
theorem Z9x {p : Prop} (h : p := by exact px_ret1 rfl (v := .bool _) rfl (fun _ s => ((((((((s.del 7).del 6).del 5).del 4).del 3).del 2).del 1).del 0)) ⟨congrArg Value.bool (by first | rfl | simp), rfl⟩) : p := h
theorem Zb {p q : Prop} (k : q) (h : Hid q → p := by intro k; refine Zq ?_; refine Z2 ?_; exact k) : p := h k
theorem Ze {p q : Prop} (k : q) (h : Hid q → p := by intro k; refine Z1 ?_; refine Z4 ?_; exact k) : p := h k
theorem Zn {p q : Prop} (k : q) (h : Hid q → p := by intro k; refine cd_skip ?_; refine px_then ?_; exact k) : p := h k
theorem Zd {p q : Prop} (k : q) (h : Hid q → p := by intro k; refine oq (op_assign (v := .bool _) rfl) ?_; refine Z2 ?_; exact k) : p := h k
theorem Z7v {p q : Prop} (k : q) (h : Hid q → p := by intro k; refine px_blockN ?_; refine px_then ?_; exact k) : p := h k
theorem Zw {p q : Prop} (k : q) (h : Hid q → p := by intro k; refine Zb ?_; refine cd_ret ?_; exact k) : p := h k
theorem Z8o {p q : Prop} (k : q) (h : Hid q → p := by intro k; refine Z7v ?_; refine Z16 ?_; exact k) : p := h k
theorem Zc {p q : Prop} (k : q) (h : Hid q → p := by intro k; refine Z1 ?_; refine Z29 ?_; exact k) : p := h k
theorem Zf {p q : Prop} (k : q) (h : Hid q → p := by intro k; refine Zn ?_; refine Z7 ?_; exact k) : p := h k
theorem Zaf {p q : Prop} (k : q) (h : Hid q → p := by intro k; refine Z5h ?_; refine ei_iN rfl rfl (wn_none rfl) (os_pull4 (os_store (v := .slice _ _ _) sc_42 rfl rfl rfl rfl (Free.zero _) rfl)) ?_; rintro _ _ ⟨rfl, rfl⟩; refine ⟨[_, _, _, _, _], rfl, ?_⟩; exact k) : p := h k
theorem Z9y {p q : Prop} (k : q) (h : Hid q → p := by intro k; refine Zaf ?_; refine e_q 17 rfl (wn_none rfl) (op_nilck rfl) ?_; exact k) : p := h k
theorem Zag {p q : Prop} (k : q) (h : Hid q → p := by intro k; refine et_1 (i := 19) (by kernel_rfl) ?_; refine ei_iN rfl rfl (wn_none rfl) (os_store (v := .slice _ _ _) sc_42 rfl rfl rfl rfl (Free.zero _) rfl) ?_; rintro _ _ ⟨rfl, rfl⟩; refine ⟨[_, _, _, _, _], rfl, ?_⟩; exact k) : p := h k
theorem Z9z {p q : Prop} (k : q) (h : Hid q → p := by intro k; refine Zag ?_; refine Z8 ?_; exact k) : p := h k
theorem Z5 {p q : Prop} (k : q) (h : Hid q → p := by intro k; refine Zi ?_; refine Z7z ?_; exact k) : p := h k
theorem Zs {p q : Prop} (k : q) (h : Hid q → p := by intro k; refine Z2 ?_; refine Z7 ?_; exact k) : p := h k
theorem Z8p {p q : Prop} (k : q) (h : Hid q → p := by intro k; refine oq (op_add rfl rfl (by omega) (by omega)) ?_; refine Z4 ?_; exact k) : p := h k
theorem Z95 {p q : Prop} (k : q) (h : Hid q → p := by intro k; refine Z8p ?_; refine ol_nil ?_; exact k) : p := h k
theorem Zo {p q : Prop} (k : q) (h : Hid q → p := by intro k; refine Zd ?_; refine cd_ret ?_; exact k) : p := h k
theorem Z4l {p q : Prop} (k : q) (h : Hid q → p := by intro k; refine Z8o ?_; refine Z95 ?_; exact k) : p := h k
theorem Z19 {p q : Prop} (k : q) (h : Hid q → p := by intro k; refine Z1 ?_; refine Zw ?_; exact k) : p := h k
theorem Z2f {p q : Prop} (k : q) (h : Hid q → p := by intro k; refine px_blockR ?_; refine Z13 ?_; exact k) : p := h k
theorem Z2a {p q : Prop} (k : q) (h : Hid q → p := by intro k; refine e_q 23 rfl (wn_none rfl) (op_xor32 _ _ rfl rfl) ?_; refine e_q 26 rfl (wn_none rfl) (op_xor32 _ _ rfl rfl) ?_; exact k) : p := h k
theorem Z8q {p q : Prop} (k : q) (h : Hid q → p := by intro k; refine px_thenE ?_; refine px_blockE ?_; exact k) : p := h k
theorem Z2k {p q : Prop} (k : q) (h : Hid q → p := by intro k; refine Zq ?_; refine ol_nil ?_; exact k) : p := h k
theorem Zj {p q : Prop} (k : q) (h : Hid q → p := by intro k; refine Z7 ?_; refine Ze ?_; exact k) : p := h k
theorem Za0 {p q : Prop} (k : q) (h : Hid q → p := by intro k; refine px_thenE ?_; refine Z8q ?_; exact k) : p := h k
theorem Z5q {p q : Prop} (k : q) (h : Hid q → p := by intro k; refine cd_exit ?_; refine Za0 ?_; exact k) : p := h k
theorem Zm {a0 : Sort _} {q : ∀ (x0 : a0), Prop} {p : Prop} (k : ∀ (x0 : a0), q x0) (h : Hid (∀ (x0 : a0), q x0) → p := by intro k; refine Z1 ?_; refine Z2c ?_; intro x0; exact k x0) : p := h k
theorem Z30 {p q : Prop} (k : q) (h : Hid q → p := by intro k; refine Zf ?_; refine cd_block ?_; exact k) : p := h k
theorem Z1a {p q : Prop} (k : q) (h : Hid q → p := by intro k; refine Z5q ?_; refine px_then ?_; exact k) : p := h k
theorem Z43 {p q : Prop} (k : q) (h : Hid q → p := by intro k; refine Z8o ?_; refine Z4 ?_; exact k) : p := h k
theorem Z26 {p q : Prop} (k : q) (h : Hid q → p := by intro k; refine Z2 ?_; refine Z4p ?_; exact k) : p := h k
theorem Zah {p q : Prop} (k : q) (h : Hid q → p := by intro k; refine e_q 14 rfl (wn_none rfl) (op_nilck rfl) ?_; refine e_q 15 rfl (wn_none rfl) (op_field fld_116_1 rfl) ?_; exact k) : p := h k
theorem Zai {p q : Prop} (k : q) (h : Hid q → p := by intro k; refine Zah ?_; refine Z9y ?_; exact k) : p := h k
theorem Zaj {p q : Prop} (k : q) (h : Hid q → p := by intro k; refine Zai ?_; refine e_q 18 rfl (wn_none rfl) (op_field fld_116_2 rfl) ?_; exact k) : p := h k
theorem Zk {p q : Prop} (k : q) (h : Hid q → p := by intro k; refine Zaj ?_; refine Z9z ?_; exact k) : p := h k
theorem Zak {p q : Prop} (k : q) (h : Hid q → p := by intro k; refine e_q 14 rfl (wn_none rfl) (op_nilck rfl) ?_; refine e_q 15 rfl (wn_none rfl) (op_field fld_116_3 rfl) ?_; exact k) : p := h k
theorem Zal {p q : Prop} (k : q) (h : Hid q → p := by intro k; refine Zak ?_; refine Z9y ?_; exact k) : p := h k
theorem Zam {p q : Prop} (k : q) (h : Hid q → p := by intro k; refine Zal ?_; refine e_q 18 rfl (wn_none rfl) (op_field fld_116_4 rfl) ?_; exact k) : p := h k
theorem Zan {p q : Prop} (k : q) (h : Hid q → p := by intro k; refine Zam ?_; refine Z9z ?_; exact k) : p := h k
theorem Zl {p q : Prop} (k : q) (h : Hid q → p := by intro k; refine Zan ?_; refine px_blockN ?_; exact k) : p := h k
theorem Za1 {p q : Prop} (k : q) (h : Hid q → p := by intro k; refine Z2a ?_; refine Z1w ?_; exact k) : p := h k
theorem Z8r {p q : Prop} (k : q) (h : Hid q → p := by intro k; refine oq (op_add rfl rfl (by omega) (by omega)) ?_; refine Z2k ?_; exact k) : p := h k
theorem Z1d {p q : Prop} (k : q) (h : Hid q → p := by intro k; refine Z7 ?_; refine Z1 ?_; exact k) : p := h k
theorem Z3r {p q : Prop} (k : q) (h : Hid q → p := by intro k; refine Z2 ?_; refine cd_block ?_; exact k) : p := h k
theorem Z5r {p q : Prop} (k : q) (h : Hid q → p := by intro k; refine Z43 ?_; refine Z8r ?_; exact k) : p := h k
theorem Zt {p q : Prop} (k : q) (h : Hid q → p := by intro k; refine Zc ?_; refine Z18 ?_; exact k) : p := h k
theorem Z1x {p q : Prop} (k : q) (h : Hid q → p := by intro k; refine Z19 ?_; refine Z13 ?_; exact k) : p := h k
theorem Zu {p q : Prop} (k : q) (h : Hid q → p := by intro k; refine Z8 ?_; refine Z4l ?_; exact k) : p := h k
theorem Z1s {p q : Prop} (k : q) (h : Hid q → p := by intro k; refine Z2 ?_; refine cd_ret ?_; exact k) : p := h k
theorem Zx {p q : Prop} (k : q) (h : Hid q → p := by intro k; refine Zo ?_; refine Z13 ?_; exact k) : p := h k
theorem Zao {p q : Prop} (k : q) (h : Hid q → p := by intro k; refine Z1 ?_; refine Z4b ?_; exact k) : p := h k
theorem Zy {p q : Prop} (k : q) (h : Hid q → p := by intro k; refine Zao ?_; refine Zs ?_; exact k) : p := h k
theorem Z10 {p q : Prop} (k : q) (h : Hid q → p := by intro k; refine Z8 ?_; refine Z5r ?_; exact k) : p := h k
theorem Zap {p q : Prop} (k : q) (h : Hid q → p := by intro k; refine Z2d ?_; refine ei_iN rfl rfl (wn_none rfl) (os_pull2 (os_storew (wC _) ag_168 rfl rfl (by rw [wC_len]; rfl) (wC_one _) (by simp [wC_len, w8C_len]) (Free.zero _))) ?_; rintro _ _ ⟨rfl, rfl⟩; refine ⟨[_, _, _], rfl, ?_⟩; exact k) : p := h k
theorem Z11 {p q : Prop} (k : q) (h : Hid q → p := by intro k; refine Zap ?_; refine Z1u ?_; exact k) : p := h k
theorem Zaq {p q : Prop} (k : q) (h : Hid q → p := by intro k; refine Z2d ?_; refine ei_iN rfl rfl (wn_none rfl) (os_pull1 (os_storew (wC _) ag_168 rfl rfl (by rw [wC_len]; rfl) (wC_one _) (by simp [wC_len, w8C_len]) (Free.zero _))) ?_; rintro _ _ ⟨rfl, rfl⟩; refine ⟨[_, _, _], rfl, ?_⟩; exact k) : p := h k
theorem Z12 {p q : Prop} (k : q) (h : Hid q → p := by intro k; refine Zaq ?_; refine Z1u ?_; exact k) : p := h k
theorem Z14 {p q : Prop} (k : q) (h : Hid q → p := by intro k; refine Z2 ?_; refine Z1 ?_; exact k) : p := h k
theorem Z2q {p q : Prop} (k : q) (h : Hid q → p := by intro k; refine Z1 ?_; refine Zh ?_; exact k) : p := h k
theorem Z44 {p q : Prop} (k : q) (h : Hid q → p := by intro k; refine Z2 ?_; refine cd_cond_f rfl rfl ?_; exact k) : p := h k
theorem Z2x {p q : Prop} (k : q) (h : Hid q → p := by intro k; refine Ze ?_; refine Zw ?_; exact k) : p := h k
theorem Z5s {a0 : Sort _} {a1 : ∀ (x0 : a0), Sort _} {q : ∀ (x0 : a0) (x1 : a1 x0), Prop} {p : Prop} (k : ∀ (x0 : a0) (x1 : a1 x0), q x0 x1) (h : Hid (∀ (x0 : a0) (x1 : a1 x0), q x0 x1) → p := by intro k; refine Z4s ?_; refine ei_i rfl rfl (wn_none rfl) (os_pull4 (os_append (E := encI64) rfl sB_42 zv_3 rfl rfl rfl (fun w s => (rds_row 2 rfl rfl) [] w s) rfl (by simp; omega) (by unfold maxLen; simp; omega))) rfl ?_; rintro _ _ ⟨x0, x1, rfl, rfl⟩; refine ⟨[_, _, _, _, _], rfl, ?_⟩; exact k x0 x1) : p := h k
theorem Z1j {a0 : Sort _} {a1 : ∀ (x0 : a0), Sort _} {a2 : ∀ (x0 : a0) (x1 : a1 x0), Sort _} {a3 : ∀ (x0 : a0) (x1 : a1 x0) (x2 : a2 x0 x1), Sort _} {q : ∀ (x0 : a0) (x1 : a1 x0) (x2 : a2 x0 x1) (x3 : a3 x0 x1 x2), Prop} {p : Prop} (k : ∀ (x0 : a0) (x1 : a1 x0) (x2 : a2 x0 x1) (x3 : a3 x0 x1 x2), q x0 x1 x2 x3) (h : Hid (∀ (x0 : a0) (x1 : a1 x0) (x2 : a2 x0 x1) (x3 : a3 x0 x1 x2), q x0 x1 x2 x3) → p := by intro k; refine Z5i ?_; intro x0 x1; refine Z5s ?_; intro x2 x3; exact k x0 x1 x2 x3) : p := h k
theorem Z5t {a0 : Sort _} {a1 : ∀ (x0 : a0), Sort _} {q : ∀ (x0 : a0) (x1 : a1 x0), Prop} {p : Prop} (k : ∀ (x0 : a0) (x1 : a1 x0), q x0 x1) (h : Hid (∀ (x0 : a0) (x1 : a1 x0), q x0 x1) → p := by intro k; refine Z4s ?_; refine ei_i rfl rfl (wn_none rfl) (os_pull4 (os_append (E := encI64) rfl sB_42 zv_3 rfl rfl rfl (fun w s => (rds_row 3 rfl rfl) [] w s) rfl (by simp; omega) (by unfold maxLen; simp; omega))) rfl ?_; rintro _ _ ⟨x0, x1, rfl, rfl⟩; refine ⟨[_, _, _, _, _], rfl, ?_⟩; exact k x0 x1) : p := h k
theorem Z1k {a0 : Sort _} {a1 : ∀ (x0 : a0), Sort _} {a2 : ∀ (x0 : a0) (x1 : a1 x0), Sort _} {a3 : ∀ (x0 : a0) (x1 : a1 x0) (x2 : a2 x0 x1), Sort _} {q : ∀ (x0 : a0) (x1 : a1 x0) (x2 : a2 x0 x1) (x3 : a3 x0 x1 x2), Prop} {p : Prop} (k : ∀ (x0 : a0) (x1 : a1 x0) (x2 : a2 x0 x1) (x3 : a3 x0 x1 x2), q x0 x1 x2 x3) (h : Hid (∀ (x0 : a0) (x1 : a1 x0) (x2 : a2 x0 x1) (x3 : a3 x0 x1 x2), q x0 x1 x2 x3) → p := by intro k; refine Z5j ?_; intro x0 x1; refine Z5t ?_; intro x2 x3; exact k x0 x1 x2 x3) : p := h k
theorem Z1f {p q : Prop} (k : q) (h : Hid q → p := by intro k; refine Z4 ?_; refine Z3r ?_; exact k) : p := h k
theorem Z1g {p q : Prop} (k : q) (h : Hid q → p := by intro k; refine Z5p ?_; refine Z24 ?_; exact k) : p := h k
theorem Z5u {p q : Prop} (k : q) (h : Hid q → p := by intro k; refine Zb ?_; refine Z7 ?_; exact k) : p := h k
theorem Z37 {p q : Prop} (k : q) (h : Hid q → p := by intro k; refine Z4t ?_; refine Z1c ?_; exact k) : p := h k
theorem Zar {p q : Prop} (k : q) (h : Hid q → p := by intro k; refine Z7j ?_; refine ei_i rfl rfl (wn_none rfl) (os_call cb_119 rfl (fun w s => keys_calls  s )) rfl ?_; rintro _ _ ⟨rfl, rfl⟩; refine ⟨[_, _, _], rfl, ?_⟩; exact k) : p := h k
theorem Z1l {p q : Prop} (k : q) (h : Hid q → p := by intro k; refine Zar ?_; refine Z1e ?_; exact k) : p := h k
theorem Z1q {p q : Prop} (k : q) (h : Hid q → p := by intro k; refine Zb ?_; refine Ze ?_; exact k) : p := h k
theorem Z4m {p q : Prop} (k : q) (h : Hid q → p := by intro k; refine Z2w ?_; refine Z2 ?_; exact k) : p := h k
theorem Z1t {p q : Prop} (k : q) (h : Hid q → p := by intro k; refine Z1r ?_; refine cd_ret ?_; exact k) : p := h k
theorem Za2 {p q : Prop} (k : q) (h : Hid q → p := by intro k; refine Z2f ?_; refine Z13 ?_; exact k) : p := h k
theorem Z1m {a0 : Sort _} {q : ∀ (x0 : a0), Prop} {p : Prop} (k : ∀ (x0 : a0), q x0) (h : Hid (∀ (x0 : a0), q x0) → p := by intro k; refine Z1b ?_; intro x0; refine Z1c ?_; exact k x0) : p := h k
theorem Z1n {a0 : Sort _} {q : ∀ (x0 : a0), Prop} {p : Prop} (k : ∀ (x0 : a0), q x0) (h : Hid (∀ (x0 : a0), q x0) → p := by intro k; refine Z2j ?_; intro x0; refine Z1e ?_; exact k x0) : p := h k
theorem Z1y {p q : Prop} (k : q) (h : Hid q → p := by intro k; refine Z7 ?_; refine Z5f ?_; exact k) : p := h k
theorem Z1z {p q : Prop} (k : q) (h : Hid q → p := by intro k; refine Za2 ?_; refine Z2f ?_; exact k) : p := h k
theorem Zas {p q : Prop} (k : q) (h : Hid q → p := by intro k; refine Z6 ?_; refine Z4c ?_; exact k) : p := h k
theorem Z5v {p q : Prop} (k : q) (h : Hid q → p := by intro k; refine Zas ?_; refine Z4c ?_; exact k) : p := h k
theorem Z27 {p q : Prop} (k : q) (h : Hid q → p := by intro k; refine Z1a ?_; refine Z1 ?_; exact k) : p := h k
theorem Zat {p q : Prop} (k : q) (h : Hid q → p := by intro k; refine et_1 (i := 22) (by kernel_rfl) ?_; refine Z4j ?_; exact k) : p := h k
theorem Z4x {p q : Prop} (k : q) (h : Hid q → p := by intro k; refine Zat ?_; refine Za1 ?_; exact k) : p := h k
theorem Zau {p q : Prop} (k : q) (h : Hid q → p := by intro k; refine et_1 (i := 22) (by kernel_rfl) ?_; refine Z4k ?_; exact k) : p := h k
theorem Z4y {p q : Prop} (k : q) (h : Hid q → p := by intro k; refine Zau ?_; refine Za1 ?_; exact k) : p := h k
theorem Z5c {p q : Prop} (k : q) (h : Hid q → p := by intro k; refine Z16 ?_; refine Z29 ?_; exact k) : p := h k
theorem Z2g {p q : Prop} (k : q) (h : Hid q → p := by intro k; refine Z5u ?_; refine Zc ?_; exact k) : p := h k
theorem Z2h {p q : Prop} (k : q) (h : Hid q → p := by intro k; refine Z44 ?_; refine Zn ?_; exact k) : p := h k
theorem Z2i {p q : Prop} (k : q) (h : Hid q → p := by intro k; refine Z30 ?_; refine Ze ?_; exact k) : p := h k
theorem Z5w {p q : Prop} (k : q) (h : Hid q → p := by intro k; refine Z24 ?_; refine Z5n ?_; exact k) : p := h k
theorem Z4n {p q : Prop} (k : q) (h : Hid q → p := by intro k; refine oq (op_ne rfl rfl) ?_; refine Z2 ?_; exact k) : p := h k
theorem Z96 {a0 : Sort _} {q : ∀ (x0 : a0), Prop} {p : Prop} (k : ∀ (x0 : a0), q x0) (h : Hid (∀ (x0 : a0), q x0) → p := by intro k; refine ei_i rfl rfl (wn_none rfl) (os_boxa rfl) rfl ?_; rintro _ _ ⟨x0, rfl, rfl⟩; refine ⟨[_, _, _], rfl, ?_⟩; refine e_q 11 rfl (wn_none rfl) (op_assign (v := .pointer _) rfl) ?_; exact k x0) : p := h k
theorem Z2r {p q : Prop} (k : q) (h : Hid q → p := by intro k; refine Z2d ?_; refine ei_i rfl rfl (wn_none rfl) (os_q (op_ld 3 sc_42 rfl rfl rfl)) rfl ?_; rintro _ _ ⟨rfl, rfl⟩; refine ⟨[_, _, _, _, _], rfl, ?_⟩; exact k) : p := h k
theorem Z2s {p q : Prop} (k : q) (h : Hid q → p := by intro k; refine Z30 ?_; refine Z1 ?_; exact k) : p := h k
theorem Z2t {p q : Prop} (k : q) (h : Hid q → p := by intro k; refine ol_nil ?_; refine Z4l ?_; exact k) : p := h k
theorem Z7w {a0 : Sort _} {a1 : ∀ (x0 : a0), Sort _} {q : ∀ (x0 : a0) (x1 : a1 x0), Prop} {p : Prop} (k : ∀ (x0 : a0) (x1 : a1 x0), q x0 x1) (h : Hid (∀ (x0 : a0) (x1 : a1 x0), q x0 x1) → p := by intro k; refine Z4s ?_; refine ei_i rfl rfl (wn_none rfl) (os_pull4 (os_append (E := encI64) rfl sB_42 zv_3 rfl rfl rfl (fun w s => (rds_row 1 rfl rfl) [] w s) rfl (by simp; omega) (by unfold maxLen; simp; omega))) rfl ?_; rintro _ _ ⟨x0, x1, rfl, rfl⟩; refine ⟨[_, _, _, _, _], rfl, ?_⟩; exact k x0 x1) : p := h k
theorem Z2u {a0 : Sort _} {a1 : ∀ (x0 : a0), Sort _} {a2 : ∀ (x0 : a0) (x1 : a1 x0), Sort _} {q : ∀ (x0 : a0) (x1 : a1 x0) (x2 : a2 x0 x1), Prop} {p : Prop} (k : ∀ (x0 : a0) (x1 : a1 x0) (x2 : a2 x0 x1), q x0 x1 x2) (h : Hid (∀ (x0 : a0) (x1 : a1 x0) (x2 : a2 x0 x1), q x0 x1 x2) → p := by intro k; refine Z1b ?_; intro x0; refine Z7w ?_; intro x1 x2; exact k x0 x1 x2) : p := h k
theorem Z97 {p q : Prop} (k : q) (h : Hid q → p := by intro k; refine Z6 ?_; refine Z2y ?_; exact k) : p := h k
theorem Z98 {p q : Prop} (k : q) (h : Hid q → p := by intro k; refine e_q 4 rfl (wn_none rfl) (op_field fld_84_0 rfl) ?_; refine e_q 5 rfl (wn_none rfl) (op_ld 1 sc_3 rfl rfl (voteC_a0 _)) ?_; exact k) : p := h k
theorem Za3 {a0 : Sort _} {q : ∀ (x0 : a0), Prop} {p : Prop} (k : ∀ (x0 : a0), q x0) (h : Hid (∀ (x0 : a0), q x0) → p := by intro k; refine rg_i (wn_none rfl) (os_alloc (cs := (rootC Root.zero).toArray) zB_24 (by kernel_rfl)) rfl rfl ?_; rintro _ _ ⟨x0, rfl, rfl⟩; refine ⟨[_], rfl, ?_⟩; refine rg_iN (wn_none rfl) (os_storera _ ag_24 rfl rfl (Free.zero _)) rfl ?_; rintro _ _ ⟨rfl, rfl⟩; refine ⟨[_], rfl, ?_⟩; exact k x0) : p := h k
theorem Z8s {p q : Prop} (k : q) (h : Hid q → p := by intro k; refine oq (op_field fld_72_3 rfl) ?_; refine oq (op_ld 1 sc_3 rfl rfl (vActC_a3 _)) ?_; exact k) : p := h k
theorem Z8t {p q : Prop} (k : q) (h : Hid q → p := by intro k; refine oq (op_field fld_78_0 rfl) ?_; refine oq (op_ld 0 sc_3 rfl rfl (valC_a0 _)) ?_; exact k) : p := h k
theorem Z31 {p q : Prop} (k : q) (h : Hid q → p := by intro k; refine Z5v ?_; refine Z5d ?_; exact k) : p := h k
theorem Z32 {p q : Prop} (k : q) (h : Hid q → p := by intro k; refine Zc ?_; refine Z29 ?_; exact k) : p := h k
theorem Z33 {p q : Prop} (k : q) (h : Hid q → p := by intro k; refine Zb ?_; refine cd_block ?_; exact k) : p := h k
theorem Z99 {p q : Prop} (k : q) (h : Hid q → p := by intro k; refine Zj ?_; refine Z4m ?_; exact k) : p := h k
theorem Z9a {p q : Prop} (k : q) (h : Hid q → p := by intro k; refine e_q 2 rfl (wn_none rfl) (op_field fld_131_3 rfl) ?_; refine e_q 3 rfl (wn_none rfl) (op_ld 2 sc_79 rfl rfl rfl) ?_; exact k) : p := h k
theorem Z2l {p q : Prop} (k : q) (h : Hid q → p := by intro k; refine Z4 ?_; refine Z4 ?_; exact k) : p := h k
theorem Z9b {p q : Prop} (k : q) (h : Hid q → p := by intro k; refine e_q 4 rfl (wn_none rfl) (op_move (v := .pointer _) rfl) ?_; refine e_q 5 rfl (wn_none rfl) (op_nilck rfl) ?_; exact k) : p := h k
theorem Z38 {p q : Prop} (k : q) (h : Hid q → p := by intro k; refine Z26 ?_; refine Z2q ?_; exact k) : p := h k
theorem Z39 {p q : Prop} (k : q) (h : Hid q → p := by intro k; refine Z2m ?_; refine Z17 ?_; exact k) : p := h k
theorem Z3a {p q : Prop} (k : q) (h : Hid q → p := by intro k; refine Z4q ?_; refine Z2 ?_; exact k) : p := h k
theorem Z3b {p q : Prop} (k : q) (h : Hid q → p := by intro k; refine Z2m ?_; refine rg_nil_then1 ?_; exact k) : p := h k
theorem Z3c {p q : Prop} (k : q) (h : Hid q → p := by intro k; refine Z4b ?_; refine Z2 ?_; exact k) : p := h k
theorem Z3d {p q : Prop} (k : q) (h : Hid q → p := by intro k; refine Z1d ?_; refine Z97 ?_; exact k) : p := h k
theorem Z3e {p q : Prop} (k : q) (h : Hid q → p := by intro k; refine Z26 ?_; refine Z1x ?_; exact k) : p := h k
theorem Z3f {p q : Prop} (k : q) (h : Hid q → p := by intro k; refine Z8b ?_; refine rg_q (wn_none rfl) (op_lda (L := rootC _) 3 ag_24 rfl rfl (voteC_af2 _) (by simp [voteC_len])) rfl rfl ?_; exact k) : p := h k
theorem Za4 {p q : Prop} (k : q) (h : Hid q → p := by intro k; refine Z54 ?_; refine oq (op_lda (L := rootC _) 2 ag_24 rfl rfl (voteC_af2 _) (by simp [voteC_len])) ?_; exact k) : p := h k
theorem Za5 {p q : Prop} (k : q) (h : Hid q → p := by intro k; refine Z4 ?_; refine oq (op_neg rfl) ?_; exact k) : p := h k
theorem Za6 {p q : Prop} (k : q) (h : Hid q → p := by intro k; refine ol_nil ?_; refine px_then ?_; exact k) : p := h k
theorem Z3g {p q : Prop} (k : q) (h : Hid q → p := by intro k; refine Zn ?_; refine Z2x ?_; exact k) : p := h k
theorem Za7 {p q : Prop} (k : q) (h : Hid q → p := by intro k; refine rg_q (wn_none rfl) (op_ld 5 sc_3 rfl rfl (voteC_a0 _)) rfl rfl ?_; refine rg_q (wn_none rfl) (op_index _ sB_132 rfl rfl (Int.toNat_of_nonneg (by omega)).symm (rds_row 6 rfl rfl) rfl (by omega)) rfl rfl ?_; exact k) : p := h k
theorem Za8 {p q : Prop} (k : q) (h : Hid q → p := by intro k; refine rg_q (wn_none rfl) (op_ld 6 sc_3 rfl rfl (voteC_a0 _)) rfl rfl ?_; refine rg_q (wn_none rfl) (op_index _ sB_132 rfl rfl (Int.toNat_of_nonneg (by omega)).symm (rds_row 7 rfl rfl) rfl (by omega)) rfl rfl ?_; exact k) : p := h k
theorem Z4o {p q : Prop} (k : q) (h : Hid q → p := by intro k; refine cd_pull6 ?_; refine Z7 ?_; exact k) : p := h k
theorem Za9 {a0 : Sort _} {q : ∀ (x0 : a0), Prop} {p : Prop} (k : ∀ (x0 : a0), q x0) (h : Hid (∀ (x0 : a0), q x0) → p := by intro k; refine oi (os_alloc (cs := (firstC First.zero).toArray) zB_155 (by kernel_rfl)) ?_; rintro _ _ ⟨x0, rfl, rfl⟩; refine oN (os_storew (firstC _) ag_155 rfl rfl (firstC_len _) (firstC_one _) (by simp [firstC_len]) (Free.zero _)) ?_; rintro _ _ ⟨rfl, rfl⟩; exact k x0) : p := h k
theorem Z8u {p q : Prop} (k : q) (h : Hid q → p := by intro k; refine rg_q (wn_none rfl) (op_field fld_78_1 rfl) rfl rfl ?_; refine rg_q (wn_none rfl) (op_ld 0 sc_9 rfl rfl (valC_a1 _)) rfl rfl ?_; exact k) : p := h k
theorem Z3s {p q : Prop} (k : q) (h : Hid q → p := by intro k; refine Zd ?_; refine Z1 ?_; exact k) : p := h k
theorem Z3t {p q : Prop} (k : q) (h : Hid q → p := by intro k; refine Z60 ?_; refine Z37 ?_; exact k) : p := h k
theorem Z3u {p q : Prop} (k : q) (h : Hid q → p := by intro k; refine Zs ?_; refine Z1 ?_; exact k) : p := h k
theorem Z3v {p q : Prop} (k : q) (h : Hid q → p := by intro k; refine cd_skip ?_; refine Z4l ?_; exact k) : p := h k
theorem Zav {p q : Prop} (k : q) (h : Hid q → p := by intro k; refine Z5w ?_; refine Z56 ?_; exact k) : p := h k
theorem Z3w {p q : Prop} (k : q) (h : Hid q → p := by intro k; refine Zav ?_; refine Z4x ?_; exact k) : p := h k
theorem Z3x {p q : Prop} (k : q) (h : Hid q → p := by intro k; refine Z18 ?_; refine oq (op_field fld_179_1 rfl) ?_; exact k) : p := h k
theorem Z3y {p q : Prop} (k : q) (h : Hid q → p := by intro k; refine Z59 ?_; refine Z4y ?_; exact k) : p := h k
theorem Zaw {p q : Prop} (k : q) (h : Hid q → p := by intro k; refine Z5c ?_; refine Za4 ?_; exact k) : p := h k
theorem Zax {p q : Prop} (k : q) (h : Hid q → p := by intro k; refine Zaw ?_; refine Za5 ?_; exact k) : p := h k
theorem Zay {p q : Prop} (k : q) (h : Hid q → p := by intro k; refine Zax ?_; refine Z22 ?_; exact k) : p := h k
theorem Zaz {p q : Prop} (k : q) (h : Hid q → p := by intro k; refine Zay ?_; refine Z22 ?_; exact k) : p := h k
theorem Z3z {p q : Prop} (k : q) (h : Hid q → p := by intro k; refine Zaz ?_; refine Zr ?_; exact k) : p := h k
theorem Z40 {p q : Prop} (k : q) (h : Hid q → p := by intro k; refine Za6 ?_; refine Z99 ?_; exact k) : p := h k
theorem Zaa {p q : Prop} (k : q) (h : Hid q → p := by intro k; refine rg_q (wn_none rfl) (op_len_string Try.underlying9 rfl) rfl rfl ?_; refine rg_q (wn_none rfl) (op_conv64 Try.underlying142 (by rw [Try.underlying3]; rfl) rfl (by omega)) rfl rfl ?_; exact k) : p := h k
theorem Z45 {p q : Prop} (k : q) (h : Hid q → p := by intro k; refine Z4a ?_; refine Z1s ?_; exact k) : p := h k
theorem Zb0 {p q : Prop} (k : q) (h : Hid q → p := by intro k; refine Z2v ?_; refine oq (op_extract (v := .agg _) rfl rfl) ?_; exact k) : p := h k
theorem Z46 {p q : Prop} (k : q) (h : Hid q → p := by intro k; refine Zb0 ?_; refine Z4e ?_; exact k) : p := h k
theorem Zb1 {p q : Prop} (k : q) (h : Hid q → p := by intro k; refine ei_i rfl rfl (wn_none rfl) (os_call cb_120 rfl (fun w s => turn_calls (k := 18) _  s (by decide) (by decide))) rfl ?_; rintro _ _ ⟨rfl, rfl⟩; refine ⟨[_], rfl, ?_⟩; refine e_q 9 rfl (wn_none rfl) (op_xor32 _ _ rfl rfl) ?_; exact k) : p := h k
theorem Z47 {p q : Prop} (k : q) (h : Hid q → p := by intro k; refine Zb1 ?_; refine e_q 12 rfl (wn_none rfl) (op_xor32 _ _ rfl rfl) ?_; exact k) : p := h k
theorem Z48 {p q : Prop} (k : q) (h : Hid q → p := by intro k; refine Z4 ?_; refine oq (op_add32 _ _ rfl rfl) ?_; exact k) : p := h k
theorem Zb2 {p q : Prop} (k : q) (h : Hid q → p := by intro k; refine ei_i rfl rfl (wn_none rfl) (os_call cb_114 rfl (fun w s => right_calls (k := 18) _  s (by decide) (by decide))) rfl ?_; rintro _ _ ⟨rfl, rfl⟩; refine ⟨[_], rfl, ?_⟩; refine e_q 14 rfl (wn_none rfl) (op_xor32 _ _ rfl rfl) ?_; exact k) : p := h k
theorem Z49 {p q : Prop} (k : q) (h : Hid q → p := by intro k; refine Zb2 ?_; refine e_q 17 rfl (wn_none rfl) (op_xor32 _ _ rfl rfl) ?_; exact k) : p := h k
theorem Zab {p q : Prop} (k : q) (h : Hid q → p := by intro k; refine e_q 16 rfl (wn_none rfl) (op_lda (L := rootC _) 0 ag_24 rfl rfl (rootC_take' _) (by simp [rootC_len])) ?_; refine e_q 17 rfl (wn_none rfl) (op_move (v := .pointer _) rfl) ?_; exact k) : p := h k
theorem Zac {p q : Prop} (k : q) (h : Hid q → p := by intro k; refine oq (op_index _ sB_150 rfl rfl rfl (rds_row 2 rfl rfl) rfl (by omega)) ?_; refine oq (op_ldaw (L := firstC _) ag_155 (rds_row 2 rfl rfl) rfl (by omega) rfl (firstC_ta _)) ?_; exact k) : p := h k
theorem Z9c {p q : Prop} (k : q) (h : Hid q → p := by intro k; refine Z6 ?_; refine ol_q (wn_some rfl rfl rfl rfl rfl) (op_move (v := .int _ _) rfl) rfl ?_; exact k) : p := h k
theorem Zad {p q : Prop} (k : q) (h : Hid q → p := by intro k; refine oq (op_index _ sB_37 rfl rfl rfl (rds_row 2 rfl rfl) rfl (by omega)) ?_; refine oq (op_ldaw (L := rootC _) ag_24 (rds_row 2 rfl rfl) rfl (by omega) rfl (rootC_ta _)) ?_; exact k) : p := h k
theorem Zae {p q : Prop} (k : q) (h : Hid q → p := by intro k; refine rg_q (wn_none rfl) (op_ld 0 sc_3 rfl rfl (valC_a0 _)) rfl rfl ?_; refine rg_q (wn_none rfl) (op_conv64i Try.underlying142 (by rw [Try.underlying3]; rfl) rfl) rfl rfl ?_; exact k) : p := h k
theorem Z5x {p q : Prop} (k : q) (h : Hid q → p := by intro k; refine cd_pull4 ?_; refine cd_pull5 ?_; exact k) : p := h k
theorem Z3h {a0 : Sort _} {q : ∀ (x0 : a0), Prop} {p : Prop} (k : ∀ (x0 : a0), q x0) (h : Hid (∀ (x0 : a0), q x0) → p := by intro k; refine Zm ?_; intro x0; refine Zh ?_; exact k x0) : p := h k
theorem Z9d {p : Prop} (h : p := by refine Zw ?_; exact px_ret1 rfl (v := .int _ _) rfl (fun _ s => s) ⟨rfl, rfl⟩) : p := h
theorem Z79 {p q : Prop} (k : q) (h : Hid q → p := by intro k; refine px_pull9 ?_; refine px_pull9 ?_; exact k) : p := h k
theorem Z7x {p q : Prop} (k : q) (h : Hid q → p := by intro k; refine Z18 ?_; refine oq (op_field fld_44_2 rfl) ?_; exact k) : p := h k
end Go.SL
