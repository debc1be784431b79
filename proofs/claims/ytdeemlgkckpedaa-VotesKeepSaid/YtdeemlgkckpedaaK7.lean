import Derived.Test.YtdeemlgkckpedaaK6
set_option linter.unusedVariables false
set_option linter.unusedSimpArgs false
namespace Go.SL
open Go.Proofs

set_option maxRecDepth 100000 in
set_option maxHeartbeats 1000000 in
theorem add_calls {w0 w : World} {l : List HProp} (p : Nat) (w1 : W8) (ro : Option Addr) (rc : Nat) (r : List UInt8) (n : Nat) (t : List UInt8) (hs : Sat w0 w ((Blk p (.cells (stC ⟨w1, ⟨ro, (r).length, rc⟩, n⟩).toArray 179 (0, 0))) :: (Row 5 encU8 (.slice ro (r).length rc) (r)) :: l)) (hn : n + t.length < 1000000000) (hr : r.length < 64) :
  Calls Try.prog 110 #[.pointer (some ⟨p, 0, none⟩), .string (B t)] w (Ret w0 fun v l' => ∃ ro rc, v = .tuple #[] ∧ l' = Blk p (.cells (stC ⟨runs w1 (r ++ t), ⟨ro, (left (r ++ t)).length, rc⟩, n + t.length⟩).toArray 179 (0, 0)) :: Row 5 encU8 (.slice ro (left (r ++ t)).length rc) (left (r ++ t)) :: l) := by
 have hrt : (r ++ t).length = r.length + t.length := List.length_append
 refine calls_enter Try.func110 rfl rfl rfl hs ?_
 refine Z20 ?_
 refine oq (op_field fld_179_2 rfl) ?_
 refine oq (op_ld 0 sc_142 rfl rfl (show (stC _).toArray[9]? = some (.int .u64 (n : Int)) from stC_a9 _)) ?_
 refine Z4w ?_
 refine oq (op_len_string Try.underlying9 rfl) ?_
 refine oq (op_conv64 Try.underlying142 (by rw [Try.underlying3]; rfl) rfl (by omega)) ?_
 refine oq (op_addn rfl rfl (by omega)) ?_
 refine Zr ?_
 refine oq (op_field fld_179_2 rfl) ?_
 refine oN (os_store (v := .int _ _) sc_142 rfl rfl rfl (by simp [stC_len]) (Free.zero _) (stC_s9 _ _)) ?_; rintro _ _ ⟨rfl, rfl⟩
 refine Z1 ?_
 refine Z3o ?_
 refine Z3k ?_
 refine oq (op_ld 0 sc_162 rfl rfl (show (stC _).toArray[8]? = some (.slice ro r.length rc) from stC_a8 _)) ?_
 refine Z4w ?_
 refine Z8 ?_
 refine oi (os_appendS rfl sB_162 Try.underlying9 zv_5 rfl rfl rfl (by omega) (by unfold maxLen; omega)) ?_; rintro _ _ ⟨ao1, ac1, rfl, rfl⟩
 refine Z3k ?_
 refine Z8 ?_
 refine Z9f ?_
 refine Z4i ?_
 refine cd_loop2 (α := W8 × List UInt8 × Option Addr × Nat) [(23, 43)] (fun x => []) (fun x => Blk p (.cells (stC ⟨x.1, ⟨x.2.2.1, (x.2.1).length, x.2.2.2⟩, n + t.length⟩).toArray 179 (0, 0)) :: Row 5 encU8 (.slice x.2.2.1 (x.2.1).length x.2.2.2) (x.2.1) :: l) (fun x => runs x.1 x.2.1 = runs w1 (r ++ t) ∧ left x.2.1 = left (r ++ t) ∧ x.2.1.length ≤ (r ++ t).length) (fun x => x.2.1.length) (w1, r ++ t, ao1, ac1) ⟨rfl, rfl, Nat.le_refl _⟩ trivial (fun _ s => s) ?_
 rintro ⟨u, b, bo, bc⟩ ⟨h1, h2, h3⟩ f; dsimp only at h1 h2 h3 ⊢
 refine Z1q ?_
 refine Z3k ?_
 refine Z82 ?_
 refine oq (op_len_slice Try.underlying162 rfl) ?_
 refine Z3p ?_
 refine cd_cond rfl (fun hb1 => ?_) (fun hb1 => ?_)
 ·have hp1 := hb1
  (try simp only [bn] at hp1)
  have hb64 : 64 ≤ b.length := by omega
  refine Z9 ?_
  refine cd_block ?_
  refine Z3o ?_
  refine Z3k ?_
  refine Z82 ?_
  refine Z8 ?_
  refine oi (os_slicerow_lend 64 sB_162 rfl rfl rfl rfl (by omega)) ?_; rintro _ _ ⟨rfl, rfl⟩
  refine Z8 ?_
  refine Zcs ?_
  refine Z1 ?_
  refine Z61 ?_
  refine Z1k ?_
  refine Z3k ?_
  refine Z82 ?_
  refine Z8 ?_
  refine oi (os_slicerow_from 64 sB_162 rfl rfl rfl rfl (by omega)) ?_; rintro _ _ ⟨bo2, bc2, rfl, rfl⟩
  refine Z3k ?_
  refine Z8 ?_
  refine Z9f ?_
  refine ol_nil ?_
  refine px_blockN ?_
  refine px_loop2 (blk8 u (b.take 64), b.drop 64, bo2, bc2) ⟨by rw [← h1, runs_ge (w := u) hb64], by rw [← h2, left_ge hb64], by dsimp only; rw [List.length_drop]; omega⟩ (by (try dsimp only); rw [List.length_drop]; omega) trivial ?_ (fun _ s => s)
  exact Z2
 have hp1 := hb1
 (try simp only [bn] at hp1)
 have hb64 : b.length < 64 := by omega
 refine Z6y ?_
 have e1 : runs w1 (r ++ t) = u := by rw [← h1, runs_lt hb64]
 have e2 : left (r ++ t) = b := by rw [← h2, left_lt hb64]
 exact px_end0 rfl (fun _ s => s) ⟨bo, bc, rfl, by rw [e1, e2]⟩

set_option maxRecDepth 100000 in
set_option maxHeartbeats 1000000 in
theorem end_calls {w0 w : World} {l : List HProp} (p : Nat) (w1 : W8) (ro : Option Addr) (rc : Nat) (r : List UInt8) (n : Nat) (hs : Sat w0 w ((Blk p (.cells (stC ⟨w1, ⟨ro, (r).length, rc⟩, n⟩).toArray 179 (0, 0))) :: (Row 5 encU8 (.slice ro (r).length rc) (r)) :: l)) (hr : r.length < 64) (hn : n < 1000000000) :
  Calls Try.prog 111 #[.pointer (some ⟨p, 0, none⟩)] w (Ret w0 fun v l' => v = .agg (rootC (outR (runs w1 (padM r n)))).toArray ∧ l' = l) := by
 have hz : zpad r.length = (119 - r.length) % 64 := rfl
 have hpm : (padM r n).length = r.length + 1 + zpad r.length + 8 := by unfold padM; simp [be64_len]; omega
 refine calls_enter Try.func111 rfl rfl rfl hs ?_
 refine Z0 ?_
 refine Z1n ?_; intro bx1
 refine Z1 ?_
 refine Z20 ?_
 refine oq (op_field fld_179_2 rfl) ?_
 refine oq (op_ld 1 sc_142 rfl rfl (show (stC _).toArray[9]? = some (.int .u64 (n : Int)) from stC_a9 _)) ?_
 refine oq (op_muln (C := 8) rfl rfl (by omega)) ?_
 refine Zb ?_
 refine Z3o ?_
 refine Z3k ?_
 refine oq (op_ld 1 sc_162 rfl rfl (show (stC _).toArray[8]? = some (.slice ro r.length rc) from stC_a8 _)) ?_
 refine oi (os_bslice (E := encU8) [_] (ys := [128]) sB_162 zv_5 rfl rfl rfl rfl (by decide)) ?_; rintro _ _ ⟨ao1, rfl, rfl⟩
 refine Zo ?_
 refine oi (os_append (E := encU8) rfl sB_162 zv_5 rfl rfl rfl (fun w s => (rds_row 1 rfl rfl) [] w s) rfl (by simp; omega) (by unfold maxLen; simp; omega)) ?_; rintro _ _ ⟨ao2, ac2, rfl, rfl⟩
 refine Z3k ?_
 refine Zo ?_
 refine Z9f ?_
 refine Z4m ?_
 refine cd_block ?_
 refine cd_loop2 (α := Nat × Option Addr × Nat) [(22, 37)] (fun x => []) (fun x => Blk p (.cells (stC ⟨w1, ⟨x.2.1, (r ++ [128] ++ List.replicate x.1 0).length, x.2.2⟩, n⟩).toArray 179 (0, 0)) :: Row 5 encU8 (.slice x.2.1 (r ++ [128] ++ List.replicate x.1 0).length x.2.2) (r ++ [128] ++ List.replicate x.1 0) :: Blk bx1 (.cells (rootC Root.zero).toArray 24 (0, 0)) :: l) (fun x => x.1 ≤ zpad r.length) (fun x => zpad r.length - x.1) (0, ao2, ac2) (Nat.zero_le _) trivial (fun _ s => by rw [show r ++ [128] ++ List.replicate 0 0 = r ++ [128] by simp]; exact (s.del 2)) ?_
 rintro ⟨k, bo, bc⟩ hk f; dsimp only at hk ⊢; have hlk : (r ++ [128] ++ List.replicate k 0).length = r.length + 1 + k := by simp; omega
 refine Z1q ?_
 refine Z3k ?_
 refine oq (op_ld 0 sc_162 rfl rfl (show (stC _).toArray[8]? = some (.slice bo (r ++ [128] ++ List.replicate k 0).length bc) from stC_a8 _)) ?_
 refine oq (op_len_slice Try.underlying162 rfl) ?_
 refine oq (op_rem rfl rfl (by omega) (by omega)) ?_
 refine Z57 ?_
 refine cd_cond rfl (fun hb1 => ?_) (fun hb1 => ?_)
 ·have hp1 := hb1
  (try simp only [bn] at hp1)
  have hkz : k < zpad r.length := by omega
  refine Z9 ?_
  refine cd_block ?_
  refine Z61 ?_
  refine Z1k ?_
  refine Z3k ?_
  refine oq (op_ld 0 sc_162 rfl rfl (show (stC _).toArray[8]? = some (.slice bo (r ++ [128] ++ List.replicate k 0).length bc) from stC_a8 _)) ?_
  refine oi (os_bslice (E := encU8) [_] (ys := [0]) sB_162 zv_5 rfl rfl rfl rfl (by decide)) ?_; rintro _ _ ⟨ao3, rfl, rfl⟩
  refine Zs ?_
  refine oi (os_append (E := encU8) rfl sB_162 zv_5 rfl rfl rfl (fun w s => (rds_row 1 rfl rfl) [] w s) rfl (by rw [hlk]; simp; omega) (by unfold maxLen; rw [hlk]; simp; omega)) ?_; rintro _ _ ⟨ao4, ac4, rfl, rfl⟩
  refine Z3k ?_
  refine Zs ?_
  refine Z9f ?_
  refine ol_nil ?_
  refine px_blockN ?_
  have e1 : r ++ [128] ++ List.replicate (k + 1) 0 = r ++ [128] ++ List.replicate k 0 ++ [0] := by rw [List.replicate_succ']; simp
  refine px_loop2 (k + 1, ao4, ac4) (by dsimp only; omega) (by (try dsimp only); omega) trivial ?_ (fun _ s => (by (try dsimp only); rw [e1]; exact (s.del 2)))
  exact Z2
 have hp1 := hb1
 (try simp only [bn] at hp1)
 obtain rfl : k = zpad r.length := by omega
 refine Z1g ?_
 refine Zu ?_
 refine Z4i ?_
 refine cd_loop2 (α := Nat × Option Addr × Nat) [(4, 4), (38, 56)] (fun x => [(38, .int .i64 (x.1 : Int))]) (fun x => Blk p (.cells (stC ⟨w1, ⟨x.2.1, (r ++ [128] ++ List.replicate (zpad r.length) 0 ++ be64 (n * 8) x.1).length, x.2.2⟩, n⟩).toArray 179 (0, 0)) :: Row 5 encU8 (.slice x.2.1 (r ++ [128] ++ List.replicate (zpad r.length) 0 ++ be64 (n * 8) x.1).length x.2.2) (r ++ [128] ++ List.replicate (zpad r.length) 0 ++ be64 (n * 8) x.1) :: Blk bx1 (.cells (rootC Root.zero).toArray 24 (0, 0)) :: l) (fun x => x.1 ≤ 8) (fun x => 8 - x.1) (0, bo, bc) (Nat.zero_le _) ⟨rfl, trivial⟩ (fun _ s => by rw [show r ++ [128] ++ List.replicate (zpad r.length) 0 ++ be64 (n * 8) 0 = r ++ [128] ++ List.replicate (zpad r.length) 0 by simp [be64]]; exact s) ?_
 rintro ⟨i, co, cc⟩ hi f; dsimp only at hi ⊢; have hl8 : (r ++ [128] ++ List.replicate (zpad r.length) 0 ++ be64 (n * 8) i).length = r.length + 1 + zpad r.length + i := by simp [be64_len]; omega
 refine Zv ?_
 refine cd_cond rfl (fun hb2 => ?_) (fun hb2 => ?_)
 ·have hp2 := hb2
  (try simp only [bn] at hp2)
  have hi8 : i < 8 := by omega
  refine Z2m ?_
  refine Z53 ?_
  refine cd_pull1 ?_
  refine cd_drawe (M := [_, _]) mx [4, 11, 12, 15] ?_
  refine Z1e ?_
  refine e_q 1 rfl (wn_none rfl) (op_move (v := .pointer _) rfl) ?_
  refine e_q 2 rfl (wn_none rfl) (op_nilck rfl) ?_
  refine e_q 3 rfl (wn_none rfl) (op_field fld_179_1 rfl) ?_
  refine Z9a ?_
  refine e_q 6 rfl (wn_none rfl) (op_move (v := .int _ _) rfl) ?_
  refine e_q 7 rfl (wn_none rfl) (op_mul rfl rfl (by omega) (by omega)) ?_
  refine e_q 8 rfl (wn_none rfl) (op_sub rfl rfl (by omega) (by omega)) ?_
  refine e_q 9 rfl (wn_none rfl) (op_shr_nat (m := 56 - 8 * i) rfl (congrArg (Value.int .i64) (by omega)) (by show 56 - 8 * i ≤ 64; omega)) ?_
  refine e_q 10 rfl (wn_none rfl) (op_conv8 Try.underlying5 (by rw [Try.underlying142]; rfl) rfl) ?_
  refine et_2 (i1 := 4) (i2 := 11) (by kernel_rfl) ?_ ?_
  ·
   refine ei_i rfl rfl (wn_none rfl) (os_q (op_ld 0 sc_162 rfl rfl (show (stC _).toArray[8]? = some (.slice co (r ++ [128] ++ List.replicate (zpad r.length) 0 ++ be64 (n * 8) i).length cc) from stC_a8 _))) rfl ?_; rintro _ _ ⟨rfl, rfl⟩; refine ⟨[_, _], rfl, ?_⟩
   refine Z2o ?_
   refine ei_i rfl rfl (wn_none rfl) (os_bslice (E := encU8) [_] (ys := [_]) sB_162 zv_5 rfl rfl rfl rfl (by decide)) rfl ?_; rintro _ _ ⟨ao5, rfl, rfl⟩; refine ⟨[_, _, _], rfl, ?_⟩
   refine Z2a ?_
   refine Zct ?_; intro ao6 ac6
   refine e_q 13 rfl (wn_none rfl) (op_nilck rfl) ?_
   refine e_q 14 rfl (wn_none rfl) (op_field fld_179_1 rfl) ?_
   refine Z6a ?_
   refine Zcu ?_
   refine Zaz ?_
   have e1 : r ++ [128] ++ List.replicate (zpad r.length) 0 ++ be64 (n * 8) (i + 1) = r ++ [128] ++ List.replicate (zpad r.length) 0 ++ be64 (n * 8) i ++ [UInt8.ofNat (n * 8 / 2 ^ (56 - 8 * i))] := by rw [be64_succ]; simp only [List.append_assoc]
   refine px_loop2 (i + 1, ao6, ac6) (by dsimp only; omega) (by (try dsimp only); omega) ⟨congrArg (Value.int .i64) (by simp), trivial⟩ ?_ (fun _ s => (by (try dsimp only); rw [e1]; exact (s.del 2)))
   exact Z2
  refine ei_i rfl rfl (wn_none rfl) (os_bslice (E := encU8) [_] (ys := [_]) sB_162 zv_5 rfl rfl rfl rfl (by decide)) rfl ?_; rintro _ _ ⟨ao7, rfl, rfl⟩; refine ⟨[_, _, _], rfl, ?_⟩
  refine Z1y ?_
  refine ei_i rfl rfl (wn_none rfl) (os_q (op_ld 1 sc_162 rfl rfl (show (stC _).toArray[8]? = some (.slice co (r ++ [128] ++ List.replicate (zpad r.length) 0 ++ be64 (n * 8) i).length cc) from stC_a8 _))) rfl ?_; rintro _ _ ⟨rfl, rfl⟩; refine ⟨[_, _, _], rfl, ?_⟩
  refine Z2a ?_
  refine Zct ?_; intro ao8 ac8
  refine e_q 13 rfl (wn_none rfl) (op_nilck rfl) ?_
  refine e_q 14 rfl (wn_none rfl) (op_field fld_179_1 rfl) ?_
  refine Z6a ?_
  refine Zcu ?_
  refine Zaz ?_
  have e1 : r ++ [128] ++ List.replicate (zpad r.length) 0 ++ be64 (n * 8) (i + 1) = r ++ [128] ++ List.replicate (zpad r.length) 0 ++ be64 (n * 8) i ++ [UInt8.ofNat (n * 8 / 2 ^ (56 - 8 * i))] := by rw [be64_succ]; simp only [List.append_assoc]
  refine px_loop2 (i + 1, ao8, ac8) (by dsimp only; omega) (by (try dsimp only); omega) ⟨congrArg (Value.int .i64) (by simp), trivial⟩ ?_ (fun _ s => (by (try dsimp only); rw [e1]; exact (s.del 2)))
  exact Z2
 have hp2 := hb2
 (try simp only [bn] at hp2)
 obtain rfl : i = 8 := by omega
 refine Z1g ?_
 refine Z7 ?_
 refine cd_block ?_
 refine cd_loop2 (α := W8 × List UInt8 × Option Addr × Nat) [(57, 77)] (fun x => []) (fun x => Blk p (.cells (stC ⟨x.1, ⟨x.2.2.1, (x.2.1).length, x.2.2.2⟩, n⟩).toArray 179 (0, 0)) :: Row 5 encU8 (.slice x.2.2.1 (x.2.1).length x.2.2.2) (x.2.1) :: Blk bx1 (.cells (rootC Root.zero).toArray 24 (0, 0)) :: l) (fun x => runs x.1 x.2.1 = runs w1 (padM r n) ∧ x.2.1.length % 64 = 0 ∧ x.2.1.length ≤ 128) (fun x => x.2.1.length) (w1, padM r n, co, cc) ⟨rfl, by dsimp only; omega, by dsimp only; omega⟩ trivial (fun _ s => s) ?_
 rintro ⟨u, b, bo, bc⟩ ⟨h1, h2, h3⟩ f; dsimp only at h1 h2 h3 ⊢
 refine Z1q ?_
 refine Z3k ?_
 refine Z82 ?_
 refine oq (op_len_slice Try.underlying162 rfl) ?_
 refine oq (op_gt rfl rfl) ?_
 refine Z1 ?_
 refine cd_cond rfl (fun hb3 => ?_) (fun hb3 => ?_)
 ·have hp3 := hb3
  (try simp only [bn] at hp3)
  have hb64 : 64 ≤ b.length := by omega
  refine Z3m ?_
  refine Z61 ?_
  refine Z1k ?_
  refine Z3k ?_
  refine Z82 ?_
  refine Z8 ?_
  refine oi (os_slicerow_lend 64 sB_162 rfl rfl rfl rfl (by omega)) ?_; rintro _ _ ⟨rfl, rfl⟩
  refine Z8 ?_
  refine Zcs ?_
  refine ol_nil ?_
  refine Z9o ?_
  refine Z1k ?_
  refine Z1k ?_
  refine Z3k ?_
  refine Z82 ?_
  refine Z8 ?_
  refine oi (os_slicerow_from 64 sB_162 rfl rfl rfl rfl (by omega)) ?_; rintro _ _ ⟨bo2, bc2, rfl, rfl⟩
  refine Z3k ?_
  refine Z8 ?_
  refine Z9f ?_
  refine ol_nil ?_
  refine px_loop2 (blk8 u (b.take 64), b.drop 64, bo2, bc2) ⟨by rw [← h1, runs_ge (w := u) hb64], by dsimp only; rw [List.length_drop]; omega, by dsimp only; rw [List.length_drop]; omega⟩ (by (try dsimp only); rw [List.length_drop]; omega) trivial ?_ (fun _ s => s)
  exact Z2
 have hp3 := hb3
 (try simp only [bn] at hp3)
 have hb0 : b.length < 64 := by omega
 refine Z21 ?_
 refine Z1n ?_; intro bx2
 refine Z1 ?_
 refine Z1q ?_
 refine Zr ?_
 refine oq (op_field fld_179_0 rfl) ?_
 refine oq (op_lda  1 ag_164 rfl rfl (stC_af0 _) (by simp [stC_len])) ?_
 refine Z1i ?_
 refine cd_loop2 (α := Nat) [(6, 7), (82, 112)] (fun x => [(82, .int .i64 (x : Int))]) (fun x => Blk bx2 (.cells (rootC (outN u x)).toArray 24 (0, 0)) :: Blk bx1 (.cells (rootC Root.zero).toArray 24 (0, 0)) :: l) (fun x => x ≤ 8) (fun x => 8 - x) 0 (Nat.zero_le _) ⟨rfl, trivial⟩ (fun _ s => by rw [outN_zero]; exact ((s.del 2).del 1)) ?_
 rintro j hj f; (try dsimp only at hj ⊢)
 refine Zv ?_
 refine cd_cond rfl (fun hb4 => ?_) (fun hb4 => ?_)
 ·have hp4 := hb4
  (try simp only [bn] at hp4)
  have hj8 : j < 8 := by omega
  refine Z2m ?_
  refine oq (op_ixa _ arp_164 rfl rfl rfl (by omega) (wC_gd (ws := u.1) (by rw [u.2]; omega))) ?_
  refine Zw ?_
  refine Zb ?_
  refine Z1d ?_
  refine Z4 ?_
  refine Z83 ?_
  refine Z4 ?_
  refine Z83 ?_
  refine Zax ?_
  refine Z83 ?_
  refine Zax ?_
  refine Z83 ?_
  refine Zax ?_
  refine oq (op_shr32 (m := 24) _ rfl rfl (by decide)) ?_
  refine Z9g ?_
  refine Z4 ?_
  refine oq (op_shr32 (m := 16) _ rfl rfl (by decide)) ?_
  refine Z9g ?_
  refine Z4 ?_
  refine oq (op_shr32 (m := 8) _ rfl rfl (by decide)) ?_
  refine Z9g ?_
  refine Z4 ?_
  refine Z9g ?_
  refine oq (op_aidx0 (4 * j) a1_24 rfl rfl (by omega) (by omega)) ?_
  refine oN (os_store (v := .int _ _) sc_5 rfl rfl rfl (Nat.ble_eq_true_of_le (show 4 * j + 1 ≤ _ by rw [List.size_toArray, rootC_len]; omega)) (Free.zero _) (rootC_set _ _ _)) ?_; rintro _ _ ⟨rfl, rfl⟩
  refine oq (op_aidx0 (4 * j + 1) a1_24 rfl rfl (by omega) (by omega)) ?_
  refine oN (os_store (v := .int _ _) sc_5 rfl rfl rfl (Nat.ble_eq_true_of_le (show 4 * j + 1 + 1 ≤ _ by rw [List.size_toArray, rootC_len]; omega)) (Free.zero _) (rootC_set _ _ _)) ?_; rintro _ _ ⟨rfl, rfl⟩
  refine oq (op_aidx0 (4 * j + 2) a1_24 rfl rfl (by omega) (by omega)) ?_
  refine oN (os_store (v := .int _ _) sc_5 rfl rfl rfl (Nat.ble_eq_true_of_le (show 4 * j + 2 + 1 ≤ _ by rw [List.size_toArray, rootC_len]; omega)) (Free.zero _) (rootC_set _ _ _)) ?_; rintro _ _ ⟨rfl, rfl⟩
  refine oq (op_aidx0 (4 * j + 3) a1_24 rfl rfl (by omega) (by omega)) ?_
  refine oN (os_store (v := .int _ _) sc_5 rfl rfl rfl (Nat.ble_eq_true_of_le (show 4 * j + 3 + 1 ≤ _ by rw [List.size_toArray, rootC_len]; omega)) (Free.zero _) (rootC_set _ _ _)) ?_; rintro _ _ ⟨rfl, rfl⟩
  refine Z30 ?_
  refine px_loop2 (j + 1) (by omega) (by (try dsimp only); omega) ⟨congrArg (Value.int .i64) (by simp), trivial⟩ ?_ (fun _ s => (by (try dsimp only); rw [outN_succ u hj8]; exact s))
  exact Z2
 have hp4 := hb4
 (try simp only [bn] at hp4)
 obtain rfl : j = 8 := by omega
 refine Z21 ?_
 refine Z2n ?_
 refine Z8 ?_
 refine Z54 ?_
 have e9 : runs w1 (padM r n) = u := by rw [← h1, runs_lt hb0]
 exact px_rv1 rfl (rv_cella 0 ag_24 rfl rfl (rootC_take' _) (by simp [rootC_len])) (fun _ s => ((s.del 1).del 0)) ⟨by rw [e9]; rfl, rfl⟩
end Go.SL

set_option linter.unusedVariables false
set_option linter.unusedSimpArgs false
namespace Go.SL
open Go.Proofs

set_option maxRecDepth 100000 in
set_option maxHeartbeats 1000000 in
theorem Of_calls {w0 w : World} {l : List HProp} (lo : Option Addr) (lc : Nat) (ts : List (List UInt8)) (hs : Sat w0 w (l)) (hr : Rds w0 l encStr lo ts) (hn : ts.flatten.length < 100000000) (hlen : ts.length ≤ 1000000) :
  Calls Try.prog 97 #[.slice lo ts.length lc] w (Ret w0 fun v l' => v = .agg (rootC (shaM ts.flatten)).toArray ∧ l' = l) := by
 refine calls_enter Try.func97 rfl rfl rfl hs ?_
 refine Z0 ?_
 refine Z1n ?_; intro bx1
 refine Z1b ?_
 refine oi (os_call cb_109 rfl (fun w s => first_calls  s )) ?_; rintro _ _ ⟨rfl, rfl⟩
 refine oq (op_build (L := stC _) (vs := [(0, .agg (w8C _).toArray)]) bB_179 rfl ⟨⟨by simp [Value.cells, w8C_len], by rw [stC_len]; rfl⟩, trivial⟩ ((stC_b0 _ _ _).trans rfl)) ?_
 refine Z26 ?_; intro bx2
 refine Zd ?_
 refine Z40 ?_
 refine Za ?_
 refine oq (op_len_slice Try.underlying175 rfl) ?_
 refine Z1i ?_
 refine cd_loop2 (α := Nat × Option Addr × Nat) [(5, 5), (11, 18)] (fun x => [(11, .int .i64 (x.1 : Int))]) (fun x => Blk bx2 (.cells (stC ⟨runs H8 (ts.take x.1).flatten, ⟨x.2.1, (left (ts.take x.1).flatten).length, x.2.2⟩, (ts.take x.1).flatten.length⟩).toArray 179 (0, 0)) :: Row 5 encU8 (.slice x.2.1 (left (ts.take x.1).flatten).length x.2.2) (left (ts.take x.1).flatten) :: Blk bx1 (.cells (rootC Root.zero).toArray 24 (0, 0)) :: l) (fun x => x.1 ≤ ts.length) (fun x => ts.length - x.1) (0, none, 0) (Nat.zero_le _) ⟨rfl, trivial⟩ (fun _ s => by dsimp only; rw [List.take_zero, List.flatten_nil, left_nil, runs_nil]; exact (Sat.rowNil s).pull 1) ?_
 rintro ⟨i, bo, bc⟩ hi f; (try dsimp only at hi ⊢)
 refine Zv ?_
 refine cd_cond rfl (fun hb1 => ?_) (fun hb1 => ?_)
 ·have hp1 := hb1
  (try simp only [bn] at hp1)
  have hi1 : i < ts.length := by omega
  have e1 : (ts.take (i + 1)).flatten = (ts.take i).flatten ++ ts[i] := by rw [List.take_succ_eq_append_getElem hi1, List.flatten_append, List.flatten_cons, List.flatten_nil, List.append_nil]
  have e2 := runs_append ts[i] _ (ts.take i).flatten H8 rfl
  have e3 : ts.flatten.length = (ts.take (i + 1)).flatten.length + (ts.drop (i + 1)).flatten.length := by rw [← List.length_append, ← List.flatten_append, List.take_append_drop]
  rw [e1, List.length_append] at e3
  have e4 := left_length (ts.take i).flatten
  refine Z2y ?_
  refine oq (op_index _ sB_175 rfl rfl rfl (((hr.cons _).cons _).cons _) rfl (by omega)) ?_
  refine oq (op_ldw sc_9 (((hr.cons _).cons _).cons _) rfl (by omega) rfl) ?_
  refine Z4e ?_
  refine Z1 ?_
  refine Z61 ?_
  refine Z4w ?_
  refine Z8 ?_
  refine Z8 ?_
  refine oi (os_call cb_110 rfl (fun w s => add_calls _ _ _ _ _ _ _  s (by omega) (by omega))) ?_; rintro _ _ ⟨ro2, rc2, rfl, rfl⟩
  refine Z30 ?_
  refine px_loop2 (i + 1, ro2, rc2) (by dsimp only; omega) (by (try dsimp only); omega) ⟨congrArg (Value.int .i64) (by simp), trivial⟩ ?_ (fun _ s => (by (try dsimp only); rw [e1, e2.1, e2.2, List.length_append]; exact s))
  exact Z2
 have hp1 := hb1
 (try simp only [bn] at hp1)
 obtain rfl : i = ts.length := by omega
 rw [List.take_length]
 have e4 := left_length ts.flatten
 refine Z1g ?_
 refine Zc ?_
 refine Z8 ?_
 refine Z8 ?_
 refine oi (os_call cb_111 rfl (fun w s => end_calls _ _ _ _ _ _  s (by omega) (by omega))) ?_; rintro _ _ ⟨rfl, rfl⟩
 refine Z54 ?_
 exact px_rv1 rfl (rv_cella 0 ag_24 rfl rfl (rootC_take' _) (by simp [rootC_len])) (fun _ s => (s.del 0)) ⟨rfl, rfl⟩

end Go.SL

set_option linter.unusedVariables false
set_option linter.unusedSimpArgs false
namespace Go.SL
open Go.Proofs

set_option maxRecDepth 100000 in
set_option maxHeartbeats 1000000 in
theorem Mul64_calls {w0 w : World} {l : List HProp} (x y : Nat) (hs : Sat w0 w (l)) (hx : x < 18446744073709551616) (hy : y < 18446744073709551616) :
  Calls Try.prog 116 #[.int .u64 (x : Int), .int .u64 (y : Int)] w (Ret w0 fun v l' => v = .tuple #[.int .u64 ((mul64 x y).1 : Int), .int .u64 ((mul64 x y).2 : Int)] ∧ l' = l) := by
 refine calls_enter Try.func116 rfl rfl rfl hs ?_
 refine Z0 ?_
 refine Zw ?_
 refine Z1x ?_
 refine oq (op_andlo rfl (by omega) rfl) ?_
 refine Z1x ?_
 refine Z6w ?_
 refine Z1x ?_
 refine oq (op_andlo rfl (by omega) rfl) ?_
 refine Z1x ?_
 refine Z6w ?_
 refine Z1x ?_
 refine Z4 ?_
 refine oq (op_mulw64 rfl rfl) ?_
 refine Z1x ?_
 refine Z4 ?_
 refine oq (op_mulw64 rfl rfl) ?_
 refine Z4 ?_
 refine Z6w ?_
 refine oq (op_addw64 rfl rfl) ?_
 refine Z1x ?_
 refine oq (op_andlo rfl (by omega) rfl) ?_
 refine Z1x ?_
 refine Z6w ?_
 refine Z1x ?_
 refine Z31 ?_
 refine oq (op_mulw64 rfl rfl) ?_
 refine oq (op_addw64 rfl rfl) ?_
 refine Z1x ?_
 refine Z4 ?_
 refine oq (op_mulw64 rfl rfl) ?_
 refine Z4 ?_
 refine oq (op_addw64 rfl rfl) ?_
 refine Z4 ?_
 refine Z6w ?_
 refine oq (op_addw64 rfl rfl) ?_
 refine Z1x ?_
 refine Z4 ?_
 refine oq (op_mulw64 rfl rfl) ?_
 refine Zt ?_
 exact px_ret2 rfl (v1 := .int _ _) (v2 := .int _ _) rfl rfl (fun _ s => s) ⟨rfl, rfl⟩

set_option maxRecDepth 100000 in
set_option maxHeartbeats 1000000 in
theorem above_calls {w0 w : World} {l : List HProp} (x p : Nat) (power : Int) (hs : Sat w0 w (l)) (hx : x < 18446744073709551616) :
  Calls Try.prog 113 #[.int .u64 (x : Int), .int .u64 (p : Int), .int .i64 power] w (Ret w0 fun v l' => v = .bool (aboveM x p power) ∧ l' = l) := by
 refine calls_enter Try.func113 rfl rfl rfl hs ?_
 refine Z0 ?_
 refine Zf ?_
 refine Z1a ?_
 refine Z4 ?_
 refine oi (os_call cb_116 rfl (fun w s => Mul64_calls _ _  s hx hx)) ?_; rintro _ _ ⟨rfl, rfl⟩
 refine Z2v ?_
 refine Z3s ?_
 refine Z3s ?_
 refine Zw ?_
 refine Zb ?_
 refine Z5o ?_
 refine cd_cond rfl (fun hb1 => ?_) (fun hb1 => ?_)
 ·have hp1 := hb1
  (try simp only [bn] at hp1)
  have hpow : power = 2 := by omega
  refine Z1a ?_
  refine Z4 ?_
  refine oq (op_gt rfl rfl) ?_
  refine Z5 ?_
  refine ol_split 28 rfl (fun hb2 => ?_) (fun hb2 => ?_)
  ·have hp2 := hb2
   (try simp only [bn] at hp2)
   refine Z1m ?_
   refine Z1m ?_
   refine ol_skip (wn_undef rfl rfl rfl rfl) rfl ?_
   refine ol_skip (wn_undef rfl rfl rfl rfl) rfl ?_
   refine Z64 ?_
   refine Z3c ?_
   refine Zp ?_
   exact px_ret1 rfl (v := .bool _) rfl (fun _ s => s) ⟨congrArg Value.bool (by unfold aboveM; rw [if_pos hpow, decide_eq_true (show p < (mul64 x x).1 by omega)]; rfl), rfl⟩
  have hp2 := hb2
  (try simp only [bn] at hp2)
  refine Z4r ?_
  refine Z4r ?_
  refine ol_q (wn_some rfl rfl rfl hb2 rfl) (op_eqn rfl rfl) rfl ?_
  refine ol_q (wn_some rfl rfl rfl hb2 rfl) (op_move (v := .bool _) rfl) rfl ?_
  refine ol_split 32 rfl (fun hb3 => ?_) (fun hb3 => ?_)
  ·have hp3 := hb3
   (try simp only [bn] at hp3)
   refine Z5r ?_
   refine Z65 ?_
   refine ol_q (wn_some rfl rfl rfl hb2 rfl) (op_pick_t (v := .bool _) rfl hb3 rfl) rfl ?_
   refine Z32 ?_
   refine Zp ?_
   exact px_ret1 rfl (v := .bool _) rfl (fun _ s => s) ⟨congrArg Value.bool (by unfold aboveM; rw [if_pos hpow, decide_eq_false (show ¬ p < (mul64 x x).1 by omega), decide_eq_true (show (mul64 x x).1 = p by omega), Bool.false_or, Bool.true_and]; exact decide_eq_decide.2 (by omega)), rfl⟩
  have hp3 := hb3
  (try simp only [bn] at hp3)
  refine Z2t ?_
  refine ol_q (wn_some rfl rfl rfl hb2 rfl) (op_pick_f (v := .bool _) rfl hb3 rfl) rfl ?_
  refine Z32 ?_
  refine Zp ?_
  exact px_ret1 rfl (v := .bool _) rfl (fun _ s => s) ⟨congrArg Value.bool (by unfold aboveM; rw [if_pos hpow, decide_eq_false (show ¬ p < (mul64 x x).1 by omega), decide_eq_false (show ¬ (mul64 x x).1 = p by omega)]; rfl), rfl⟩
 have hp1 := hb1
 (try simp only [bn] at hp1)
 have hpow : ¬ power = 2 := by omega
 refine Z9 ?_
 refine Z1a ?_
 refine Z4 ?_
 refine oi (os_call cb_116 rfl (fun w s => Mul64_calls _ _  s (mul64_lt _ _).1 hx)) ?_; rintro _ _ ⟨rfl, rfl⟩
 refine Z2v ?_
 refine Z3s ?_
 refine Z3s ?_
 refine Zw ?_
 refine Z1x ?_
 refine Z4 ?_
 refine oi (os_call cb_116 rfl (fun w s => Mul64_calls _ _  s (mul64_lt _ _).2 hx)) ?_; rintro _ _ ⟨rfl, rfl⟩
 refine Z2v ?_
 refine Z3s ?_
 refine Z3s ?_
 refine Zw ?_
 refine Z1x ?_
 refine Z4 ?_
 refine oq (op_add64x Try.func117 (by kernel_rfl) (by kernel_rfl) (by kernel_rfl) (by kernel_rfl) rfl rfl rfl) ?_
 refine Z2v ?_
 refine Z3s ?_
 refine Z3s ?_
 refine Zw ?_
 refine Z1x ?_
 refine Z4 ?_
 refine oq (op_addw64 rfl rfl) ?_
 refine Z55 ?_
 refine Z4 ?_
 refine Z6w ?_
 refine Z57 ?_
 refine cd_cond rfl (fun hb4 => ?_) (fun hb4 => ?_)
 ·have hp4 := hb4
  (try simp only [bn] at hp4)
  refine Z1a ?_
  refine Z4 ?_
  refine Z6w ?_
  refine oq (op_gt rfl rfl) ?_
  refine Zp ?_
  exact px_ret1 rfl (v := .bool _) rfl (fun _ s => s) ⟨congrArg Value.bool (by unfold aboveM; rw [if_neg hpow, if_pos (show (((mul64 (mul64 x x).1 x).1 + ((mul64 (mul64 x x).1 x).2 + (mul64 (mul64 x x).2 x).1) / 18446744073709551616) % 18446744073709551616) ≠ p / 2 ^ 32 by omega)]; exact decide_eq_decide.2 (by omega)), rfl⟩
 have hp4 := hb4
 (try simp only [bn] at hp4)
 refine Z9 ?_
 refine Z1a ?_
 refine oq (op_shlw64 (m := 32) rfl rfl (by decide)) ?_
 refine Z55 ?_
 refine Z4 ?_
 refine Z57 ?_
 refine cd_cond rfl (fun hb5 => ?_) (fun hb5 => ?_)
 ·have hp5 := hb5
  (try simp only [bn] at hp5)
  refine Z1a ?_
  refine Z4 ?_
  refine oq (op_gt rfl rfl) ?_
  refine Zp ?_
  exact px_ret1 rfl (v := .bool _) rfl (fun _ s => s) ⟨congrArg Value.bool (by unfold aboveM; rw [if_neg hpow, if_neg (show ¬ (((mul64 (mul64 x x).1 x).1 + ((mul64 (mul64 x x).1 x).2 + (mul64 (mul64 x x).2 x).1) / 18446744073709551616) % 18446744073709551616) ≠ p / 2 ^ 32 by omega), if_pos (show (((mul64 (mul64 x x).1 x).2 + (mul64 (mul64 x x).2 x).1) % 18446744073709551616) ≠ (p * 2 ^ 32 % 18446744073709551616) by omega)]; exact decide_eq_decide.2 (by omega)), rfl⟩
 have hp5 := hb5
 (try simp only [bn] at hp5)
 refine Z9 ?_
 refine Z1a ?_
 refine oq (op_gt rfl rfl) ?_
 refine Zh ?_
 exact px_ret1 rfl (v := .bool _) rfl (fun _ s => s) ⟨congrArg Value.bool (by unfold aboveM; rw [if_neg hpow, if_neg (show ¬ (((mul64 (mul64 x x).1 x).1 + ((mul64 (mul64 x x).1 x).2 + (mul64 (mul64 x x).2 x).1) / 18446744073709551616) % 18446744073709551616) ≠ p / 2 ^ 32 by omega), if_neg (show ¬ (((mul64 (mul64 x x).1 x).2 + (mul64 (mul64 x x).2 x).1) % 18446744073709551616) ≠ (p * 2 ^ 32 % 18446744073709551616) by omega)]; exact decide_eq_decide.2 (by omega)), rfl⟩

set_option maxRecDepth 100000 in
set_option maxHeartbeats 1000000 in
theorem right_calls {w0 w : World} {l : List HProp} (X : UInt32) (k : Int) (hs : Sat w0 w (l)) (h0 : 0 < k) (h1 : k < 32) :
  Calls Try.prog 114 #[.int .u32 (X.toNat : Int), .int .i64 k] w (Ret w0 fun v l' => v = .int .u32 ((rotr X k.toNat).toNat : Int) ∧ l' = l) := by
 refine calls_enter Try.func114 rfl rfl rfl hs ?_
 refine Z0 ?_
 refine Z1x ?_
 refine Z4 ?_
 refine oq (op_conv64m (k.toNat) Try.underlying74 (by rw [Try.underlying3]; rfl) rfl (by omega) (by omega)) ?_
 refine oq (op_shr32 (m := k.toNat) _ rfl rfl (by omega)) ?_
 refine Z31 ?_
 refine Z2p ?_
 refine oq (op_conv64m (32 - k.toNat) Try.underlying74 (by rw [Try.underlying3]; rfl) rfl (by omega) (by omega)) ?_
 refine oq (op_shl32 (m := 32 - k.toNat) _ rfl rfl (by omega)) ?_
 refine oq (op_or32 _ _ rfl rfl) ?_
 refine Zt ?_
 exact px_ret1 rfl (v := .int _ _) rfl (fun _ s => s) ⟨by unfold rotr; rw [UInt32.or_comm], rfl⟩

set_option maxRecDepth 100000 in
set_option maxHeartbeats 1000000 in
theorem root_calls {w0 w : World} {l : List HProp} (p : Nat) (power : Int) (hs : Sat w0 w (l))  :
  Calls Try.prog 100 #[.int .u64 (p : Int), .int .i64 power] w (Ret w0 fun v l' => v = .int .u32 ((rootM p power).toNat : Int) ∧ l' = l) := by
 refine calls_enter Try.func100 rfl rfl rfl hs ?_
 refine Z0 ?_
 refine Zb ?_
 refine Z0 ?_
 refine Zb ?_
 refine Z12 ?_
 refine Z3i ?_
 refine cd_loop2 (α := Nat) [(5, 24)] (fun x => [(5, .int .u64 (rootN p power x : Int)), (6, .int .i64 (39 - (x : Int)))]) (fun _ => _) (fun x => x ≤ 40) (fun x => 40 - x) 0 (Nat.zero_le _) ⟨rfl, congrArg (Value.int .i64) (by simp), trivial⟩ (fun _ s => s) ?_
 rintro i hi f; (try dsimp only at hi ⊢)
 refine Zu ?_
 refine Z3p ?_
 refine cd_cond rfl (fun hb1 => ?_) (fun hb1 => ?_)
 ·have hp1 := hb1
  (try simp only [bn] at hp1)
  have hi40 : i < 40 := by omega
  refine Z2m ?_
  refine Z4 ?_
  refine Zdx ?_
  refine oq (op_addw64 rfl rfl) ?_
  refine Z31 ?_
  refine oi (os_call cb_113 rfl (fun w s => above_calls _ _ _  s (Nat.mod_lt _ (by decide)))) ?_; rintro _ _ ⟨rfl, rfl⟩
  refine Z3e ?_
  refine Z1 ?_
  refine cd_cond rfl (fun hb2 => ?_) (fun hb2 => ?_)
  ·have hp2 := hb2
   (try simp only [bn] at hp2)
   refine Z1d ?_
   refine Z31 ?_
   refine Zdx ?_
   refine oq (op_addw64 rfl rfl) ?_
   refine Z2s ?_
   refine Z4z ?_
   refine Z2p ?_
   refine Z2s ?_
   have e1 : rootN p power (i + 1) = (rootN p power i + 1 * 2 ^ (39 - i)) % 18446744073709551616 := by rw [rootN, if_neg (by simpa using hb2)]
   refine Zcv ?_
   exact Z2
  have hp2 := hb2
  (try simp only [bn] at hp2)
  refine cd_skip ?_
  refine Z4z ?_
  refine Z2p ?_
  refine Z2s ?_
  have e1 : rootN p power (i + 1) = rootN p power i := by rw [rootN, if_pos (by simpa using hb2)]
  refine Zcv ?_
  exact Z2
 have hp1 := hb1
 (try simp only [bn] at hp1)
 obtain rfl : i = 40 := by omega
 refine Z1g ?_
 refine Z1a ?_
 refine oq (op_remn (C := 4294967296) rfl rfl (by first | decide | omega)) ?_
 refine oq (op_conv32 Try.underlying163 (by rw [Try.underlying142]; rfl) rfl) ?_
 exact Zc7

set_option maxRecDepth 100000 in
set_option maxHeartbeats 1000000 in
theorem primes_calls {w0 w : World} {l : List HProp} (n : Int) (hs : Sat w0 w (l)) (h0 : 0 ≤ n) (h1 : n ≤ 64) :
  Calls Try.prog 99 #[.int .i64 n] w (Ret w0 fun v l' => ∃ ao c, v = .slice ao (prm n.toNat).length c ∧ l' = Row 142 encU64 (.slice ao (prm n.toNat).length c) (prm n.toNat) :: l) := by
 refine calls_enter Try.func99 rfl rfl rfl hs ?_
 refine Z0 ?_
 refine Zx ?_
 refine Z1b ?_
 refine Zx ?_
 refine Z40 ?_
 refine Z3i ?_
 refine cd_loop2 (α := Nat × Option Addr × Nat) [(3, 5), (7, 32)] (fun x => [(3, .slice x.2.1 (PLs x.1).length x.2.2), (4, .int .u64 ((x.1 + 2 : Nat) : Int))]) (fun x => Row 142 encU64 (.slice x.2.1 (PLs x.1).length x.2.2) (PLs x.1) :: l) (fun x => x.1 ≤ 310 ∧ ((PLs x.1).length : Int) ≤ n) (fun x => 310 - x.1) (0, none, 0) ⟨Nat.zero_le _, h0⟩ ⟨rfl, rfl, trivial⟩ (fun _ s => Sat.rowNil s) ?_
 rintro ⟨i, vo, vc⟩ ⟨hi, hlen⟩ f; (try dsimp only at hi hlen ⊢)
 refine Z12 ?_
 refine Za ?_
 refine oq (op_len_slice Try.underlying165 rfl) ?_
 refine Z4 ?_
 refine Z3g ?_
 refine cd_cond rfl (fun hb1 => ?_) (fun hb1 => ?_)
 ·have hp1 := hb1
  (try simp only [bn] at hp1)
  have hlt : ((PLs i).length : Int) < n := hp1
  have hi310 : i < 310 := by
   rcases Nat.lt_or_ge i 310 with h | h
   ·exact h
   have e9 : i = 310 := by omega
   rw [e9, PLs_64] at hlt
   omega
  refine Z2y ?_
  refine Z3a ?_
  refine Za ?_
  refine oq (op_len_slice Try.underlying165 rfl) ?_
  refine Z1i ?_
  refine cd_loop2 (α := Nat) [(5, 5), (7, 7), (16, 27)] (fun x => [(5, .bool (((PLs i).take x).all (fun p => decide ((i + 2) % p ≠ 0)))), (16, .int .i64 (x : Int))]) (fun _ => _) (fun x => x ≤ (PLs i).length) (fun x => (PLs i).length - x) 0 (Nat.zero_le _) ⟨rfl, rfl, trivial⟩ (fun _ s => s) ?_
  rintro j hj f; (try dsimp only at hj ⊢)
  refine Zv ?_
  refine cd_cond rfl (fun hb2 => ?_) (fun hb2 => ?_)
  ·have hp2 := hb2
   (try simp only [bn] at hp2)
   have hj1 : j < (PLs i).length := by omega
   have hrg := PLs_rg i (PLs i)[j] (List.getElem_mem hj1)
   have hp0 : 0 < (PLs i)[j] := by omega
   refine Z2y ?_
   refine oq (op_index _ sB_165 rfl rfl rfl (rds_row 0 rfl rfl) rfl (by omega)) ?_
   refine oq (op_ldw sc_142 (rds_row 0 rfl rfl) rfl (by omega) rfl) ?_
   refine Zb ?_
   refine Z1d ?_
   refine Z5 ?_
   refine Z5 ?_
   refine ol_split 21 rfl (fun hb3 => ?_) (fun hb3 => ?_)
   ·have hp3 := hb3
    (try simp only [bn] at hp3)
    refine Z5r ?_
    refine Z5r ?_
    refine ol_q (wn_some rfl rfl rfl hb3 rfl) (op_remn rfl rfl hp0) rfl ?_
    refine ol_q (wn_some rfl rfl rfl hb3 rfl) (op_ne rfl rfl) rfl ?_
    refine Z4s ?_
    refine oq (op_assign (v := .bool _) rfl) ?_
    refine Z30 ?_
    have e1 := all_step (fun p => decide ((i + 2) % p ≠ 0)) hj1
    refine Zcw ?_
    exact Z2
   have hp3 := hb3
   (try simp only [bn] at hp3)
   refine Z2t ?_
   refine Z2t ?_
   refine Z5s ?_
   refine oq (op_assign (v := .bool _) rfl) ?_
   refine Z30 ?_
   have e1 := all_step (fun p => decide ((i + 2) % p ≠ 0)) hj1
   refine Zcw ?_
   exact Z2
  have hp2 := hb2
  (try simp only [bn] at hp2)
  obtain rfl : j = (PLs i).length := by omega
  rw [List.take_length]
  refine Z21 ?_
  refine Z5 ?_
  refine Z1 ?_
  refine cd_cond rfl (fun hb4 => ?_) (fun hb4 => ?_)
  ·have hp4 := hb4
   (try simp only [bn] at hp4)
   refine Z1d ?_
   refine Za ?_
   refine Z4 ?_
   refine oi (os_bslice (E := encU64) [_] (ys := [_]) sB_165 zv_142 rfl rfl rfl rfl (by decide)) ?_; rintro _ _ ⟨ao1, rfl, rfl⟩
   refine Z8 ?_
   refine oi (os_append (E := encU64) rfl sB_165 zv_142 rfl rfl rfl (fun w s => (rds_row 1 rfl rfl) [] w s) rfl (by simp; omega) (by unfold maxLen; simp; omega)) ?_; rintro _ _ ⟨ao2, ac2, rfl, rfl⟩
   refine Zx ?_
   refine ol_nil ?_
   refine Z4z ?_
   refine oq (op_addn (C := 1) rfl rfl (by omega)) ?_
   refine Z2s ?_
   have e2 : PLs (i + 1) = PLs i ++ [i + 2] := by rw [PLs_step, if_pos hb4]
   have e3 := PLs_len_le (i := i)
   refine px_loop2 (i + 1, ao2, ac2) ⟨by dsimp only; omega, by dsimp only; omega⟩ (by (try dsimp only); omega) ⟨congrArg (fun q => Value.slice ao2 (List.length q) ac2) e2.symm, congrArg (Value.int .u64) (by omega), trivial⟩ ?_ (fun _ s => (by (try dsimp only); rw [e2]; exact (s.del 1)))
   exact Z2
  have hp4 := hb4
  (try simp only [bn] at hp4)
  refine cd_skip ?_
  refine Z4z ?_
  refine oq (op_addn (C := 1) rfl rfl (by omega)) ?_
  refine Z2s ?_
  have e2 : PLs (i + 1) = PLs i := by rw [PLs_step, if_neg (by rw [hb4]; simp)]
  have e3 := PLs_len_le (i := i)
  refine px_loop2 (i + 1, vo, vc) ⟨by dsimp only; omega, by dsimp only; omega⟩ (by (try dsimp only); omega) ⟨congrArg (fun q => Value.slice vo (List.length q) vc) e2.symm, congrArg (Value.int .u64) (by omega), trivial⟩ ?_ (fun _ s => (by (try dsimp only); rw [e2]; exact s))
  exact Z2
 have hp1 := hb1
 (try simp only [bn] at hp1)
 have hprm : PLs i = prm n.toNat := PLs_is hi (by omega)
 rw [hprm]
 refine Z21 ?_
 refine Za ?_
 refine Zx ?_
 refine Z1z ?_
 exact px_ret1 rfl (v := .slice _ _ _) rfl (fun _ s => s) ⟨_, _, rfl, rfl⟩
end Go.SL

set_option linter.unusedVariables false
set_option linter.unusedSimpArgs false
namespace Go.SL
open Go.Proofs

set_option maxRecDepth 100000 in
set_option maxHeartbeats 1000000 in
theorem block_calls {w0 w : World} {l : List HProp} (h : W8) (s : List UInt8) (hs : Sat w0 w (l)) (hs64 : s.length = 64) :
  Calls Try.prog 101 #[.agg (w8C h).toArray, .agg (wC K64).toArray, .string (B s)] w (Ret w0 fun v l' => v = .agg (w8C (blk8 h s)).toArray ∧ l' = l) := by
 refine calls_enter Try.func101 rfl rfl rfl hs ?_
 refine Z18 ?_; intro bx1
 refine Z26 ?_; intro bx2
 refine Zbf ?_; intro bx3
 refine Z1b ?_
 refine Z9b ?_; intro bx4
 refine Z1 ?_
 refine Zu ?_
 refine Z4i ?_
 refine cd_loop2 (α := Nat) [(8, 11), (23, 83)] (fun x => [(23, .int .i64 (x : Int))]) (fun x => Blk bx4 (.cells (wC (fillA ((layM s).take x))).toArray 168 (0, 0)) :: Blk bx3 (.cells (wC (List.replicate 8 0)).toArray 164 (0, 0)) :: Blk bx2 (.cells (wC K64).toArray 168 (0, 0)) :: Blk bx1 (.cells (w8C h).toArray 164 (0, 0)) :: l) (fun x => x ≤ 64) (fun x => 64 - x) 0 (Nat.zero_le _) ⟨rfl, trivial⟩ (fun _ s => s) ?_
 rintro i hi f; (try dsimp only at hi ⊢)
 have hml : ((layM s).take i).length = i := by rw [List.length_take, layM_len]; omega
 refine Zv ?_
 refine cd_cond rfl (fun hb1 => ?_) (fun hb1 => ?_)
 ·have hp1 := hb1
  (try simp only [bn] at hp1)
  have hi64 : i < 64 := by omega
  refine Z2m ?_
  refine Z55 ?_
  refine Z3g ?_
  refine cd_cond rfl (fun hb2 => ?_) (fun hb2 => ?_)
  ·have hp2 := hb2
   (try simp only [bn] at hp2)
   have hi16 : i < 16 := by omega
   refine Z12 ?_
   refine Z3i ?_
   refine cd_loop2 (α := Nat) [(9, 9), (28, 45)] (fun x => [(9, .int .i64 (x : Int))]) (fun x => Blk bx4 (.cells (wC (fillA (((layM s).take i) ++ [accW s i x]))).toArray 168 (0, 0)) :: Blk bx3 (.cells (wC (List.replicate 8 0)).toArray 164 (0, 0)) :: Blk bx2 (.cells (wC K64).toArray 168 (0, 0)) :: Blk bx1 (.cells (w8C h).toArray 164 (0, 0)) :: l) (fun x => x ≤ 4) (fun x => 4 - x) 0 (Nat.zero_le _) ⟨rfl, trivial⟩ (fun _ s1 => by (try dsimp only [accW]); show Sat _ _ (Blk bx4 (.cells (wC (fillA (((layM s).take i) ++ [0]))).toArray 168 (0, 0)) :: Blk bx3 (.cells (wC (List.replicate 8 0)).toArray 164 (0, 0)) :: Blk bx2 (.cells (wC K64).toArray 168 (0, 0)) :: Blk bx1 (.cells (w8C h).toArray 164 (0, 0)) :: l); rw [← fillA_zero (by rw [hml]; omega)]; exact s1) ?_
   rintro k hk f; (try dsimp only at hk ⊢)
   refine Zu ?_
   refine Z3g ?_
   refine cd_cond rfl (fun hb3 => ?_) (fun hb3 => ?_)
   ·have hp3 := hb3
    (try simp only [bn] at hp3)
    have hk4 : k < 4 := by omega
    refine Z3m ?_
    refine cd_drawt (M := []) mx [] 14 (by kernel_rfl) rfl rfl ?_
    dsimp only [List.take_succ_cons, List.take_zero, List.drop_succ_cons, List.drop_zero]
    refine Zg ?_
    refine Zg ?_
    refine rg_q (wn_none rfl) (op_aidx0 i a1_168 rfl rfl rfl (by omega)) rfl rfl ?_
    refine rg_q (wn_none rfl) (op_ld 0 sc_163 rfl rfl (fillA_last hml.symm)) rfl rfl ?_
    refine rg_q (wn_none rfl) (op_mul32 _ 256 rfl rfl) rfl rfl ?_
    refine rg_q (wn_none rfl) (op_move (v := .string _) rfl) rfl rfl ?_
    refine Zg ?_
    refine Z9c ?_
    refine Zg ?_
    refine Z7b ?_
    refine rg_q (wn_none rfl) (op_sidx (4 * i + k) Try.underlying9 rfl rfl (by first | rfl | omega) (by omega)) rfl rfl ?_
    refine Z9d ?_
    refine rg_q (wn_none rfl) (op_add32 _ _ rfl rfl) rfl rfl ?_
    refine rg_q (wn_none rfl) (op_aidx0 i a1_168 rfl rfl rfl (by omega)) rfl rfl ?_
    refine rg_tail0 ?_
    refine oN (os_store (v := .int _ _) sc_163 rfl rfl rfl (Nat.ble_eq_true_of_le (show i + 1 ≤ _ by rw [List.size_toArray, wC_len, fillA_len (by rw [List.length_append, hml]; show i + 1 ≤ 64; omega)]; omega)) (Free.zero _) (fillA_re hml.symm (by rw [hml]; omega) _)) ?_; rintro _ _ ⟨rfl, rfl⟩
    refine ol_nil ?_
    refine Z6z ?_
    refine px_loop2 (k + 1) (by omega) (by (try dsimp only); omega) ⟨congrArg (Value.int .i64) (by simp), trivial⟩ ?_ (fun _ s => s)
    exact Z2
   have hp3 := hb3
   (try simp only [bn] at hp3)
   obtain rfl : k = 4 := by omega
   rw [accW_word]
   refine Z1g ?_
   refine cd_exit ?_
   refine Zay ?_
   refine px_then ?_
   refine Z1d ?_
   refine Zbw ?_
   have e1 := lay_first s hi16
   exact Zy
  have hp2 := hb2
  (try simp only [bn] at hp2)
  have hi16 : 16 ≤ i := by omega
  refine Zl ?_
  refine Z9u ?_
  refine Zg ?_
  refine Z77 ?_
  refine rg_q (wn_none rfl) (op_aidx0 (i - 15) a1_168 rfl rfl (by omega) (by omega)) rfl rfl ?_
  refine Zak ?_
  refine Zg ?_
  refine Z77 ?_
  refine rg_q (wn_none rfl) (op_aidx0 (i - 2) a1_168 rfl rfl (by omega) (by omega)) rfl rfl ?_
  refine Zak ?_
  refine Z33 ?_
  refine Z3y ?_
  refine cd_drawe (M := [_]) mx [4, 8, 11, 13, 20, 22, 29] ?_
  refine Z6t ?_
  refine Z75 ?_
  refine e_q 2 rfl (wn_none rfl) (op_sub rfl rfl (by omega) (by omega)) ?_
  refine e_q 3 rfl (wn_none rfl) (op_aidx0 (i - 16) a1_168 rfl rfl (by omega) (by omega)) ?_
  refine Z9a ?_
  refine e_q 6 rfl (wn_none rfl) (op_sub rfl rfl (by omega) (by omega)) ?_
  refine e_q 7 rfl (wn_none rfl) (op_aidx0 (i - 7) a1_168 rfl rfl (by omega) (by omega)) ?_
  refine e_q 10 rfl (wn_none rfl) (op_move (v := .int _ _) rfl) ?_
  refine e_q 12 rfl (wn_none rfl) (op_move (v := .int _ _) rfl) ?_
  refine e_q 15 rfl (wn_none rfl) (op_move (v := .int _ _) rfl) ?_
  refine e_q 16 rfl (wn_none rfl) (op_shr32 (m := 3) _ rfl rfl (by decide)) ?_
  refine e_q 19 rfl (wn_none rfl) (op_move (v := .int _ _) rfl) ?_
  refine e_q 21 rfl (wn_none rfl) (op_move (v := .int _ _) rfl) ?_
  refine e_q 24 rfl (wn_none rfl) (op_move (v := .int _ _) rfl) ?_
  refine e_q 25 rfl (wn_none rfl) (op_shr32 (m := 10) _ rfl rfl (by decide)) ?_
  refine et_3 (i1 := 4) (i2 := 8) (i3 := 11) (by kernel_rfl) ?_ ?_ ?_
  ·
   refine Zk ?_
   refine et_2 (i1 := 8) (i2 := 11) (by kernel_rfl) ?_ ?_
   ·
    refine Z16 ?_
    refine Z2o ?_
    refine Z9h ?_
    refine Z5u ?_
    refine Z5a ?_
    refine Z4o ?_
    have e1 := lay_next s hi16 hi64
    unfold next16 at e1
    rw [hml] at e1
    have e8 : ∀ (a b c d : UInt32), a + b + c + d = a + c + b + d := fun a b c d => by rw [UInt32.add_assoc a b c, UInt32.add_comm b c, ← UInt32.add_assoc]
    rw [← e8] at e1
    exact Zy
   refine Z9h ?_
   refine et_2 (i1 := 8) (i2 := 13) (by kernel_rfl) ?_ ?_
   ·
    refine Z16 ?_
    refine Z5u ?_
    refine Z5a ?_
    refine Z4o ?_
    have e1 := lay_next s hi16 hi64
    unfold next16 at e1
    rw [hml] at e1
    have e8 : ∀ (a b c d : UInt32), a + b + c + d = a + c + b + d := fun a b c d => by rw [UInt32.add_assoc a b c, UInt32.add_comm b c, ← UInt32.add_assoc]
    rw [← e8] at e1
    exact Zy
   refine Z5a ?_
   refine et_2 (i1 := 8) (i2 := 20) (by kernel_rfl) ?_ ?_
   ·
    refine Z16 ?_
    refine Z4o ?_
    have e1 := lay_next s hi16 hi64
    unfold next16 at e1
    rw [hml] at e1
    have e8 : ∀ (a b c d : UInt32), a + b + c + d = a + c + b + d := fun a b c d => by rw [UInt32.add_assoc a b c, UInt32.add_comm b c, ← UInt32.add_assoc]
    rw [← e8] at e1
    exact Zy
   refine Z6h ?_
   refine et_2 (i1 := 8) (i2 := 22) (by kernel_rfl) ?_ ?_
   ·
    refine Z16 ?_
    refine Z2j ?_
    refine Z63 ?_
    have e1 := lay_next s hi16 hi64
    unfold next16 at e1
    rw [hml] at e1
    have e8 : ∀ (a b c d : UInt32), a + b + c + d = a + c + b + d := fun a b c d => by rw [UInt32.add_assoc a b c, UInt32.add_comm b c, ← UInt32.add_assoc]
    rw [← e8] at e1
    exact Zy
   refine Z5l ?_
   refine Z2k ?_
   refine Zn ?_
   refine Z16 ?_
   refine Z2h ?_
   refine Z51 ?_
   have e1 := lay_next s hi16 hi64
   unfold next16 at e1
   rw [hml] at e1
   have e8 : ∀ (a b c d : UInt32), a + b + c + d = a + c + b + d := fun a b c d => by rw [UInt32.add_assoc a b c, UInt32.add_comm b c, ← UInt32.add_assoc]
   rw [← e8] at e1
   exact Zy
  ·
   refine Zk ?_
   refine et_2 (i1 := 4) (i2 := 11) (by kernel_rfl) ?_ ?_
   ·
    refine Z16 ?_
    refine Z2o ?_
    refine Z9h ?_
    refine Z5u ?_
    refine Z5a ?_
    refine Z4o ?_
    have e1 := lay_next s hi16 hi64
    unfold next16 at e1
    rw [hml] at e1
    have e8 : ∀ (a b c d : UInt32), a + b + c + d = a + c + b + d := fun a b c d => by rw [UInt32.add_assoc a b c, UInt32.add_comm b c, ← UInt32.add_assoc]
    rw [← e8] at e1
    exact Zy
   refine Z9h ?_
   refine et_2 (i1 := 4) (i2 := 13) (by kernel_rfl) ?_ ?_
   ·
    refine Z16 ?_
    refine Z5u ?_
    refine Z5a ?_
    refine Z4o ?_
    have e1 := lay_next s hi16 hi64
    unfold next16 at e1
    rw [hml] at e1
    have e8 : ∀ (a b c d : UInt32), a + b + c + d = a + c + b + d := fun a b c d => by rw [UInt32.add_assoc a b c, UInt32.add_comm b c, ← UInt32.add_assoc]
    rw [← e8] at e1
    exact Zy
   refine Z5a ?_
   refine Z7u ?_ ?_
   ·
    refine Z16 ?_
    refine Z4o ?_
    have e1 := lay_next s hi16 hi64
    unfold next16 at e1
    rw [hml] at e1
    have e8 : ∀ (a b c d : UInt32), a + b + c + d = a + c + b + d := fun a b c d => by rw [UInt32.add_assoc a b c, UInt32.add_comm b c, ← UInt32.add_assoc]
    rw [← e8] at e1
    exact Zy
   refine Z6h ?_
   refine Z6g ?_ ?_
   ·
    refine Z16 ?_
    refine Z2j ?_
    refine Z63 ?_
    have e1 := lay_next s hi16 hi64
    unfold next16 at e1
    rw [hml] at e1
    have e8 : ∀ (a b c d : UInt32), a + b + c + d = a + c + b + d := fun a b c d => by rw [UInt32.add_assoc a b c, UInt32.add_comm b c, ← UInt32.add_assoc]
    rw [← e8] at e1
    exact Zy
   refine Z5l ?_
   refine Z2k ?_
   refine Z1y ?_
   refine Z16 ?_
   refine Z2h ?_
   refine Z51 ?_
   have e1 := lay_next s hi16 hi64
   unfold next16 at e1
   rw [hml] at e1
   have e8 : ∀ (a b c d : UInt32), a + b + c + d = a + c + b + d := fun a b c d => by rw [UInt32.add_assoc a b c, UInt32.add_comm b c, ← UInt32.add_assoc]
   rw [← e8] at e1
   exact Zy
  refine Z9h ?_
  refine et_3 (i1 := 4) (i2 := 8) (i3 := 13) (by kernel_rfl) ?_ ?_ ?_
  ·
   refine Zk ?_
   refine et_2 (i1 := 8) (i2 := 13) (by kernel_rfl) ?_ ?_
   ·
    refine Z16 ?_
    refine Z5u ?_
    refine Z5a ?_
    refine Z4o ?_
    have e1 := lay_next s hi16 hi64
    unfold next16 at e1
    rw [hml] at e1
    have e8 : ∀ (a b c d : UInt32), a + b + c + d = a + c + b + d := fun a b c d => by rw [UInt32.add_assoc a b c, UInt32.add_comm b c, ← UInt32.add_assoc]
    rw [← e8] at e1
    exact Zy
   refine Z5a ?_
   refine et_2 (i1 := 8) (i2 := 20) (by kernel_rfl) ?_ ?_
   ·
    refine Z16 ?_
    refine Z4o ?_
    have e1 := lay_next s hi16 hi64
    unfold next16 at e1
    rw [hml] at e1
    have e8 : ∀ (a b c d : UInt32), a + b + c + d = a + c + b + d := fun a b c d => by rw [UInt32.add_assoc a b c, UInt32.add_comm b c, ← UInt32.add_assoc]
    rw [← e8] at e1
    exact Zy
   refine Z6h ?_
   refine et_2 (i1 := 8) (i2 := 22) (by kernel_rfl) ?_ ?_
   ·
    refine Z16 ?_
    refine Z2j ?_
    refine Z63 ?_
    have e1 := lay_next s hi16 hi64
    unfold next16 at e1
    rw [hml] at e1
    have e8 : ∀ (a b c d : UInt32), a + b + c + d = a + c + b + d := fun a b c d => by rw [UInt32.add_assoc a b c, UInt32.add_comm b c, ← UInt32.add_assoc]
    rw [← e8] at e1
    exact Zy
   refine Z5l ?_
   refine Z2k ?_
   refine Zn ?_
   refine Z16 ?_
   refine Z2h ?_
   refine Z51 ?_
   have e1 := lay_next s hi16 hi64
   unfold next16 at e1
   rw [hml] at e1
   have e8 : ∀ (a b c d : UInt32), a + b + c + d = a + c + b + d := fun a b c d => by rw [UInt32.add_assoc a b c, UInt32.add_comm b c, ← UInt32.add_assoc]
   rw [← e8] at e1
   exact Zy
  ·
   refine Zk ?_
   refine et_2 (i1 := 4) (i2 := 13) (by kernel_rfl) ?_ ?_
   ·
    refine Z16 ?_
    refine Z5u ?_
    refine Z5a ?_
    refine Z4o ?_
    have e1 := lay_next s hi16 hi64
    unfold next16 at e1
    rw [hml] at e1
    have e8 : ∀ (a b c d : UInt32), a + b + c + d = a + c + b + d := fun a b c d => by rw [UInt32.add_assoc a b c, UInt32.add_comm b c, ← UInt32.add_assoc]
    rw [← e8] at e1
    exact Zy
   refine Z5a ?_
   refine Z7u ?_ ?_
   ·
    refine Z16 ?_
    refine Z4o ?_
    have e1 := lay_next s hi16 hi64
    unfold next16 at e1
    rw [hml] at e1
    have e8 : ∀ (a b c d : UInt32), a + b + c + d = a + c + b + d := fun a b c d => by rw [UInt32.add_assoc a b c, UInt32.add_comm b c, ← UInt32.add_assoc]
    rw [← e8] at e1
    exact Zy
   refine Z6h ?_
   refine Z6g ?_ ?_
   ·
    refine Z16 ?_
    refine Z2j ?_
    refine Z63 ?_
    have e1 := lay_next s hi16 hi64
    unfold next16 at e1
    rw [hml] at e1
    have e8 : ∀ (a b c d : UInt32), a + b + c + d = a + c + b + d := fun a b c d => by rw [UInt32.add_assoc a b c, UInt32.add_comm b c, ← UInt32.add_assoc]
    rw [← e8] at e1
    exact Zy
   refine Z5l ?_
   refine Z2k ?_
   refine Z1y ?_
   refine Z16 ?_
   refine Z2h ?_
   refine Z51 ?_
   have e1 := lay_next s hi16 hi64
   unfold next16 at e1
   rw [hml] at e1
   have e8 : ∀ (a b c d : UInt32), a + b + c + d = a + c + b + d := fun a b c d => by rw [UInt32.add_assoc a b c, UInt32.add_comm b c, ← UInt32.add_assoc]
   rw [← e8] at e1
   exact Zy
  refine Z5a ?_
  refine et_3 (i1 := 4) (i2 := 8) (i3 := 20) (by kernel_rfl) ?_ ?_ ?_
  ·
   refine Zk ?_
   refine et_2 (i1 := 8) (i2 := 20) (by kernel_rfl) ?_ ?_
   ·
    refine Z16 ?_
    refine Z4o ?_
    have e1 := lay_next s hi16 hi64
    unfold next16 at e1
    rw [hml] at e1
    have e8 : ∀ (a b c d : UInt32), a + b + c + d = a + c + b + d := fun a b c d => by rw [UInt32.add_assoc a b c, UInt32.add_comm b c, ← UInt32.add_assoc]
    rw [← e8] at e1
    exact Zy
   refine Z6h ?_
   refine et_2 (i1 := 8) (i2 := 22) (by kernel_rfl) ?_ ?_
   ·
    refine Z16 ?_
    refine Z2j ?_
    refine Z63 ?_
    have e1 := lay_next s hi16 hi64
    unfold next16 at e1
    rw [hml] at e1
    have e8 : ∀ (a b c d : UInt32), a + b + c + d = a + c + b + d := fun a b c d => by rw [UInt32.add_assoc a b c, UInt32.add_comm b c, ← UInt32.add_assoc]
    rw [← e8] at e1
    exact Zy
   refine Z5l ?_
   refine Z2k ?_
   refine Zn ?_
   refine Z16 ?_
   refine Z2h ?_
   refine Z51 ?_
   have e1 := lay_next s hi16 hi64
   unfold next16 at e1
   rw [hml] at e1
   have e8 : ∀ (a b c d : UInt32), a + b + c + d = a + c + b + d := fun a b c d => by rw [UInt32.add_assoc a b c, UInt32.add_comm b c, ← UInt32.add_assoc]
   rw [← e8] at e1
   exact Zy
  ·
   refine Zk ?_
   refine Z7u ?_ ?_
   ·
    refine Z16 ?_
    refine Z4o ?_
    have e1 := lay_next s hi16 hi64
    unfold next16 at e1
    rw [hml] at e1
    have e8 : ∀ (a b c d : UInt32), a + b + c + d = a + c + b + d := fun a b c d => by rw [UInt32.add_assoc a b c, UInt32.add_comm b c, ← UInt32.add_assoc]
    rw [← e8] at e1
    exact Zy
   refine Z6h ?_
   refine Z6g ?_ ?_
   ·
    refine Z16 ?_
    refine Z2j ?_
    refine Z63 ?_
    have e1 := lay_next s hi16 hi64
    unfold next16 at e1
    rw [hml] at e1
    have e8 : ∀ (a b c d : UInt32), a + b + c + d = a + c + b + d := fun a b c d => by rw [UInt32.add_assoc a b c, UInt32.add_comm b c, ← UInt32.add_assoc]
    rw [← e8] at e1
    exact Zy
   refine Z5l ?_
   refine Z2k ?_
   refine Z1y ?_
   refine Z16 ?_
   refine Z2h ?_
   refine Z51 ?_
   have e1 := lay_next s hi16 hi64
   unfold next16 at e1
   rw [hml] at e1
   have e8 : ∀ (a b c d : UInt32), a + b + c + d = a + c + b + d := fun a b c d => by rw [UInt32.add_assoc a b c, UInt32.add_comm b c, ← UInt32.add_assoc]
   rw [← e8] at e1
   exact Zy
  refine Z6h ?_
  refine et_3 (i1 := 4) (i2 := 8) (i3 := 22) (by kernel_rfl) ?_ ?_ ?_
  ·
   refine Zk ?_
   refine et_2 (i1 := 8) (i2 := 22) (by kernel_rfl) ?_ ?_
   ·
    refine Z16 ?_
    refine Z2j ?_
    refine Z63 ?_
    have e1 := lay_next s hi16 hi64
    unfold next16 at e1
    rw [hml] at e1
    have e8 : ∀ (a b c d : UInt32), a + b + c + d = a + c + b + d := fun a b c d => by rw [UInt32.add_assoc a b c, UInt32.add_comm b c, ← UInt32.add_assoc]
    rw [← e8] at e1
    exact Zy
   refine Z5l ?_
   refine Z2k ?_
   refine Zn ?_
   refine Z16 ?_
   refine Z2h ?_
   refine Z51 ?_
   have e1 := lay_next s hi16 hi64
   unfold next16 at e1
   rw [hml] at e1
   have e8 : ∀ (a b c d : UInt32), a + b + c + d = a + c + b + d := fun a b c d => by rw [UInt32.add_assoc a b c, UInt32.add_comm b c, ← UInt32.add_assoc]
   rw [← e8] at e1
   exact Zy
  ·
   refine Zk ?_
   refine Z6g ?_ ?_
   ·
    refine Z16 ?_
    refine Z2j ?_
    refine Z63 ?_
    have e1 := lay_next s hi16 hi64
    unfold next16 at e1
    rw [hml] at e1
    have e8 : ∀ (a b c d : UInt32), a + b + c + d = a + c + b + d := fun a b c d => by rw [UInt32.add_assoc a b c, UInt32.add_comm b c, ← UInt32.add_assoc]
    rw [← e8] at e1
    exact Zy
   refine Z5l ?_
   refine Z2k ?_
   refine Z1y ?_
   refine Z16 ?_
   refine Z2h ?_
   refine Z51 ?_
   have e1 := lay_next s hi16 hi64
   unfold next16 at e1
   rw [hml] at e1
   have e8 : ∀ (a b c d : UInt32), a + b + c + d = a + c + b + d := fun a b c d => by rw [UInt32.add_assoc a b c, UInt32.add_comm b c, ← UInt32.add_assoc]
   rw [← e8] at e1
   exact Zy
  refine Z5l ?_
  refine Z2k ?_
  refine et_2 (i1 := 4) (i2 := 8) (by kernel_rfl) ?_ ?_
  ·
   refine Zk ?_
   refine Zn ?_
   refine Z16 ?_
   refine Z2h ?_
   refine Z51 ?_
   have e1 := lay_next s hi16 hi64
   unfold next16 at e1
   rw [hml] at e1
   have e8 : ∀ (a b c d : UInt32), a + b + c + d = a + c + b + d := fun a b c d => by rw [UInt32.add_assoc a b c, UInt32.add_comm b c, ← UInt32.add_assoc]
   rw [← e8] at e1
   exact Zy
  refine Zk ?_
  refine Z1y ?_
  refine Z16 ?_
  refine Z2h ?_
  refine Z51 ?_
  have e1 := lay_next s hi16 hi64
  unfold next16 at e1
  rw [hml] at e1
  have e8 : ∀ (a b c d : UInt32), a + b + c + d = a + c + b + d := fun a b c d => by rw [UInt32.add_assoc a b c, UInt32.add_comm b c, ← UInt32.add_assoc]
  rw [← e8] at e1
  exact Zy
 have hp1 := hb1
 (try simp only [bn] at hp1)
 obtain rfl : i = 64 := by omega
 rw [List.take_of_length_le (show (layM s).length ≤ 64 by rw [layM_len]; exact Nat.le_refl _), fillA_64 (layM_len s)]
 refine Z1g ?_
 refine Z1l ?_
 refine rg_q (wn_none rfl) (op_aidx0 0 a1_164 rfl rfl rfl (by omega)) rfl rfl ?_
 refine Z6i ?_
 refine rg_q (wn_none rfl) (op_aidx0 1 a1_164 rfl rfl rfl (by omega)) rfl rfl ?_
 refine Z6i ?_
 refine rg_q (wn_none rfl) (op_aidx0 2 a1_164 rfl rfl rfl (by omega)) rfl rfl ?_
 refine Z6i ?_
 refine rg_q (wn_none rfl) (op_aidx0 3 a1_164 rfl rfl rfl (by omega)) rfl rfl ?_
 refine Z6i ?_
 refine rg_q (wn_none rfl) (op_aidx0 4 a1_164 rfl rfl rfl (by omega)) rfl rfl ?_
 refine Z6i ?_
 refine rg_q (wn_none rfl) (op_aidx0 5 a1_164 rfl rfl rfl (by omega)) rfl rfl ?_
 refine Z6i ?_
 refine rg_q (wn_none rfl) (op_aidx0 6 a1_164 rfl rfl rfl (by omega)) rfl rfl ?_
 refine Z6i ?_
 refine rg_q (wn_none rfl) (op_aidx0 7 a1_164 rfl rfl rfl (by omega)) rfl rfl ?_
 refine Z6i ?_
 refine Z33 ?_
 refine Z33 ?_
 refine Z33 ?_
 refine Z33 ?_
 refine Z33 ?_
 refine Z33 ?_
 refine Z33 ?_
 refine Z3y ?_
 refine Zu ?_
 refine Z4i ?_
 refine cd_loop2 (α := Nat) [(12, 22), (100, 162)] (fun x => [(12, .int .u32 ((rnds (layM s) h.1 x).getD 0 0).toNat), (13, .int .u32 ((rnds (layM s) h.1 x).getD 1 0).toNat), (14, .int .u32 ((rnds (layM s) h.1 x).getD 2 0).toNat), (15, .int .u32 ((rnds (layM s) h.1 x).getD 3 0).toNat), (16, .int .u32 ((rnds (layM s) h.1 x).getD 4 0).toNat), (17, .int .u32 ((rnds (layM s) h.1 x).getD 5 0).toNat), (18, .int .u32 ((rnds (layM s) h.1 x).getD 6 0).toNat), (19, .int .u32 ((rnds (layM s) h.1 x).getD 7 0).toNat), (100, .int .i64 (x : Int))]) (fun x => Blk bx4 (.cells (wC (layM s)).toArray 168 (0, 0)) :: Blk bx3 (.cells (wC (List.replicate 8 0)).toArray 164 (0, 0)) :: Blk bx2 (.cells (wC K64).toArray 168 (0, 0)) :: Blk bx1 (.cells (w8C h).toArray 164 (0, 0)) :: l) (fun x => x ≤ 64) (fun x => 64 - x) 0 (Nat.zero_le _) ⟨rfl, rfl, rfl, rfl, rfl, rfl, rfl, rfl, rfl, trivial⟩ (fun _ s => s) ?_
 rintro j hj f; (try dsimp only at hj ⊢)
 refine Zv ?_
 refine cd_cond rfl (fun hb4 => ?_) (fun hb4 => ?_)
 ·have hp4 := hb4
  (try simp only [bn] at hp4)
  have hj64 : j < 64 := by omega
  obtain ⟨va, vb, vc, vd, ve, vf, vg, vh, hv⟩ := list_len8 (rnds_len (W := layM s) h.2 j)
  rw [hv]
  refine Z2m ?_
  refine Zb ?_
  refine Z7 ?_
  refine cd_drawe (M := []) mx [2, 4, 7] ?_
  refine Z6t ?_
  refine Z75 ?_
  refine e_q 3 rfl (wn_none rfl) (op_move (v := .int _ _) rfl) ?_
  refine e_q 6 rfl (wn_none rfl) (op_move (v := .int _ _) rfl) ?_
  refine e_q 10 rfl (wn_none rfl) (op_move (v := .int _ _) rfl) ?_
  refine e_q 11 rfl (wn_none rfl) (op_move (v := .int _ _) rfl) ?_
  refine e_q 12 rfl (wn_none rfl) (op_and32 _ _ rfl rfl) ?_
  refine e_q 13 rfl (wn_none rfl) (op_move (v := .int _ _) rfl) ?_
  refine e_q 14 rfl (wn_none rfl) (op_not32 _ rfl) ?_
  refine e_q 15 rfl (wn_none rfl) (op_move (v := .int _ _) rfl) ?_
  refine e_q 16 rfl (wn_none rfl) (op_and32 _ _ rfl rfl) ?_
  refine e_q 17 rfl (wn_none rfl) (op_xor32 _ _ rfl rfl) ?_
  refine e_q 19 rfl (wn_none rfl) (op_move (v := .int _ _) rfl) ?_
  refine e_q 20 rfl (wn_none rfl) (op_aidx0 _ a1_168 rfl rfl rfl (by omega)) ?_
  refine e_q 21 rfl (wn_none rfl) (op_ld 2 sc_163 rfl rfl (wC_gd (by rw [K64_len]; omega))) ?_
  refine e_q 23 rfl (wn_none rfl) (op_move (v := .int _ _) rfl) ?_
  refine e_q 24 rfl (wn_none rfl) (op_aidx0 _ a1_168 rfl rfl rfl (by omega)) ?_
  refine e_q 25 rfl (wn_none rfl) (op_ld 0 sc_163 rfl rfl (wC_gd (by rw [layM_len]; omega))) ?_
  refine Z6b ?_
  refine ei_i rfl rfl (wn_none rfl) (os_call cb_114 rfl (fun w s => right_calls (k := 6) _  s (by decide) (by decide))) rfl ?_; rintro _ _ ⟨rfl, rfl⟩; refine ⟨[], rfl, ?_⟩
  refine Z1y ?_
  refine ei_i rfl rfl (wn_none rfl) (os_call cb_114 rfl (fun w s => right_calls (k := 11) _  s (by decide) (by decide))) rfl ?_; rintro _ _ ⟨rfl, rfl⟩; refine ⟨[], rfl, ?_⟩
  refine e_q 5 rfl (wn_none rfl) (op_xor32 _ _ rfl rfl) ?_
  refine Zm ?_
  refine ei_i rfl rfl (wn_none rfl) (os_call cb_114 rfl (fun w s => right_calls (k := 25) _  s (by decide) (by decide))) rfl ?_; rintro _ _ ⟨rfl, rfl⟩; refine ⟨[], rfl, ?_⟩
  refine e_q 8 rfl (wn_none rfl) (op_xor32 _ _ rfl rfl) ?_
  refine e_q 9 rfl (wn_none rfl) (op_add32 _ _ rfl rfl) ?_
  refine Z2j ?_
  refine e_q 22 rfl (wn_none rfl) (op_add32 _ _ rfl rfl) ?_
  refine e_q 26 rfl (wn_none rfl) (op_add32 _ _ rfl rfl) ?_
  refine e_q 27 rfl (wn_none rfl) (op_assign (v := .int _ _) rfl) ?_
  refine Zq ?_
  refine Z1a ?_
  refine oi (os_call cb_114 rfl (fun w s => right_calls (k := 2) _  s (by decide) (by decide))) ?_; rintro _ _ ⟨rfl, rfl⟩
  refine Z4 ?_
  refine oi (os_call cb_114 rfl (fun w s => right_calls (k := 13) _  s (by decide) (by decide))) ?_; rintro _ _ ⟨rfl, rfl⟩
  refine oq (op_xor32 _ _ rfl rfl) ?_
  refine Z4 ?_
  refine oi (os_call cb_114 rfl (fun w s => right_calls (k := 22) _  s (by decide) (by decide))) ?_; rintro _ _ ⟨rfl, rfl⟩
  refine oq (op_xor32 _ _ rfl rfl) ?_
  refine Z31 ?_
  refine oq (op_and32 _ _ rfl rfl) ?_
  refine Z31 ?_
  refine oq (op_and32 _ _ rfl rfl) ?_
  refine oq (op_xor32 _ _ rfl rfl) ?_
  refine Z31 ?_
  refine oq (op_and32 _ _ rfl rfl) ?_
  refine oq (op_xor32 _ _ rfl rfl) ?_
  refine oq (op_add32 _ _ rfl rfl) ?_
  refine Zb ?_
  refine Z1d ?_
  refine Z31 ?_
  refine Z31 ?_
  refine Z59 ?_
  refine Z31 ?_
  refine Z31 ?_
  refine Z59 ?_
  refine Zw ?_
  refine Zw ?_
  refine Zw ?_
  refine Zw ?_
  refine Zw ?_
  refine Zw ?_
  refine Zw ?_
  refine Z2s ?_
  refine Z5z ?_
  have e1 : rnds (layM s) h.1 (j + 1) = rnd (K64.getD j 0) ((layM s).getD j 0) [va, vb, vc, vd, ve, vf, vg, vh] := by rw [rnds, hv]
  have g0 : vh + (rotr ve 6 ^^^ rotr ve 11 ^^^ rotr ve 25) + (ve &&& vf ^^^ ~~~ve &&& vg) + K64.getD j 0 + (layM s).getD j 0 + ((rotr va 2 ^^^ rotr va 13 ^^^ rotr va 22) + (va &&& vb ^^^ va &&& vc ^^^ vb &&& vc)) = (rnds (layM s) h.1 (j + 1)).getD 0 0 := by rw [e1]; rfl
  have g1 : va = (rnds (layM s) h.1 (j + 1)).getD 1 0 := by rw [e1]; rfl
  have g2 : vb = (rnds (layM s) h.1 (j + 1)).getD 2 0 := by rw [e1]; rfl
  have g3 : vc = (rnds (layM s) h.1 (j + 1)).getD 3 0 := by rw [e1]; rfl
  have g4 : vd + (vh + (rotr ve 6 ^^^ rotr ve 11 ^^^ rotr ve 25) + (ve &&& vf ^^^ ~~~ve &&& vg) + K64.getD j 0 + (layM s).getD j 0) = (rnds (layM s) h.1 (j + 1)).getD 4 0 := by rw [e1]; rfl
  have g5 : ve = (rnds (layM s) h.1 (j + 1)).getD 5 0 := by rw [e1]; rfl
  have g6 : vf = (rnds (layM s) h.1 (j + 1)).getD 6 0 := by rw [e1]; rfl
  have g7 : vg = (rnds (layM s) h.1 (j + 1)).getD 7 0 := by rw [e1]; rfl
  refine px_loop2 (j + 1) (by omega) (by (try dsimp only); omega) ⟨congrArg (fun q : UInt32 => Value.int .u32 (q.toNat : Int)) g0, congrArg (fun q : UInt32 => Value.int .u32 (q.toNat : Int)) g1, congrArg (fun q : UInt32 => Value.int .u32 (q.toNat : Int)) g2, congrArg (fun q : UInt32 => Value.int .u32 (q.toNat : Int)) g3, congrArg (fun q : UInt32 => Value.int .u32 (q.toNat : Int)) g4, congrArg (fun q : UInt32 => Value.int .u32 (q.toNat : Int)) g5, congrArg (fun q : UInt32 => Value.int .u32 (q.toNat : Int)) g6, congrArg (fun q : UInt32 => Value.int .u32 (q.toNat : Int)) g7, congrArg (Value.int .i64) (by simp), trivial⟩ ?_ (fun _ s => s)
  exact Z2
 have hp4 := hb4
 (try simp only [bn] at hp4)
 obtain rfl : j = 64 := by omega
 generalize hV : rnds (layM s) h.1 64 = V
 refine Z21 ?_
 refine oq (op_aidx0 0 a1_164 rfl rfl rfl (by omega)) ?_
 refine Z6j ?_
 refine Z59 ?_
 refine oq (op_aidx0 1 a1_164 rfl rfl rfl (by omega)) ?_
 refine Z6j ?_
 refine Z59 ?_
 refine oq (op_aidx0 2 a1_164 rfl rfl rfl (by omega)) ?_
 refine Z6j ?_
 refine Z59 ?_
 refine oq (op_aidx0 3 a1_164 rfl rfl rfl (by omega)) ?_
 refine Z6j ?_
 refine Z59 ?_
 refine oq (op_aidx0 4 a1_164 rfl rfl rfl (by omega)) ?_
 refine Z6j ?_
 refine Z59 ?_
 refine oq (op_aidx0 5 a1_164 rfl rfl rfl (by omega)) ?_
 refine Z6j ?_
 refine Z59 ?_
 refine oq (op_aidx0 6 a1_164 rfl rfl rfl (by omega)) ?_
 refine Z6j ?_
 refine Z59 ?_
 refine oq (op_aidx0 7 a1_164 rfl rfl rfl (by omega)) ?_
 refine Z6j ?_
 refine Z59 ?_
 refine oq (op_builda (L := wC [h.1.getD 0 0 + V.getD 0 0, h.1.getD 1 0 + V.getD 1 0, h.1.getD 2 0 + V.getD 2 0, h.1.getD 3 0 + V.getD 3 0, h.1.getD 4 0 + V.getD 4 0, h.1.getD 5 0 + V.getD 5 0, h.1.getD 6 0 + V.getD 6 0, h.1.getD 7 0 + V.getD 7 0]) (vs := [(0, .int _ _), (1, .int _ _), (2, .int _ _), (3, .int _ _), (4, .int _ _), (5, .int _ _), (6, .int _ _), (7, .int _ _)]) ba_164 rfl (fill8_ok _ _ _ _ _ _ _ _)) ?_
 refine Z8 ?_
 refine oN (os_storew (wC _) ag_164 rfl rfl (by rw [wC_len]; rfl) (wC_one _) (by simp [wC_len, w8C_len]) (Free.zero _)) ?_; rintro _ _ ⟨rfl, rfl⟩
 refine Z1z ?_
 exact px_rv1 rfl (rv_cella 0 ag_164 rfl rfl (List.take_of_length_le (by simp [wC_len])) (by simp [wC_len])) (fun _ s => ((((s.del 3).del 2).del 1).del 0)) ⟨congrArg (fun q : List Value => Value.agg q.toArray) (blk8_eq h s hV), rfl⟩
end Go.SL

set_option linter.unusedVariables false
set_option linter.unusedSimpArgs false
namespace Go.SL
def full (k : List UInt8) : List UInt8 := k ++ List.replicate (64 - k.length) 0
def mixK (K : List UInt8) (x : UInt8) (i : Nat) : List UInt8 := (List.range 64).map fun q => if q < i then K.getD q 0 ^^^ x else K.getD q 0
def padK (k : List UInt8) (x : UInt8) : List UInt8 := mixK (full k) x 64
def tagOf (r : Root) : Tag := ⟨r.1.take 16, by rw [List.length_take, r.2]; rfl⟩
def keyM (k : List UInt8) : List UInt8 := if 64 < k.length then (shaM k).1 else k
def macM (k m : List UInt8) : Tag := tagOf (shaM (padK (keyM k) 92 ++ (shaM (padK (keyM k) 54 ++ m)).1))
def mixT (a b : Tag) (i : Nat) : List UInt8 := (List.range 16).map fun q => if q < i then a.1.getD q 0 ^^^ b.1.getD q 0 else a.1.getD q 0
theorem mixT_len (a b : Tag) (i : Nat) : (mixT a b i).length = 16 := by simp [mixT]
def xorT (a b : Tag) : Tag := ⟨mixT a b 16, mixT_len a b 16⟩
def joinM (l : List Tag) : Tag := l.foldl xorT Tag.zero
def colT (l : List Tag) (i k : Nat) : List UInt8 := (List.range 16).map fun q => if q < i then (joinM l).1.getD q 0 else if q = i then (joinM (l.take k)).1.getD q 0 else 0
def tagP (r : Root) (i : Nat) : List UInt8 := (List.range 16).map fun q => if q < i then r.1.getD q 0 else 0
end Go.SL

set_option linter.unusedVariables false
set_option linter.unusedSimpArgs false
namespace Go.SL
open Go.Proofs

set_option maxRecDepth 100000 in
set_option maxHeartbeats 1000000 in
theorem ROf_calls {w0 w : World} {l : List HProp} (s : List UInt8) (hs : Sat w0 w (l)) (hs1 : s.length ≤ 1000000) :
  Calls Try.prog 86 #[.string (B s)] w (Ret w0 fun v l' => v = .agg (rootC (shaM s)).toArray ∧ l' = l) := by
 have hz : (zpad (s.length % 64)) = (119 - s.length % 64) % 64 := rfl
 have htm := textM_len s
 have hp8 : (prm (Int.toNat 8)).length = 8 := prm_len (by decide)
 have hp64 : (prm (Int.toNat 64)).length = 64 := prm_len (by decide)
 refine calls_enter Try.func86 rfl rfl rfl hs ?_
 refine Z0 ?_
 refine Z1n ?_; intro bx1
 refine Z1b ?_
 refine Z4w ?_
 refine oq (op_sadd rfl rfl (by first | omega | (simp; omega))) ?_
 refine Z4e ?_
 refine Z4m ?_
 refine cd_block ?_
 refine cd_loop2 (α := Nat) [(3, 3), (17, 22)] (fun x => [(3, .string (B (s ++ [128] ++ List.replicate x 0)))]) (fun _ => _) (fun x => x ≤ (zpad (s.length % 64))) (fun x => (zpad (s.length % 64)) - x) 0 (Nat.zero_le _) ⟨congrArg (fun q => Value.string (B q)) (by simp), trivial⟩ (fun _ s => s) ?_
 rintro k hk f; (try dsimp only at hk ⊢)
 have hlk : (s ++ [128] ++ List.replicate k 0).length = s.length + 1 + k := by simp; omega
 refine Z12 ?_
 refine Z4w ?_
 refine oq (op_len_string Try.underlying9 rfl) ?_
 refine oq (op_rem rfl rfl (by omega) (by omega)) ?_
 refine Z57 ?_
 refine cd_cond rfl (fun hb1 => ?_) (fun hb1 => ?_)
 ·have hp1 := hb1
  (try simp only [bn] at hp1)
  have hkz : k < (zpad (s.length % 64)) := by omega
  refine Z9 ?_
  refine cd_block ?_
  refine Z1d ?_
  refine Z4w ?_
  refine oq (op_sadd rfl rfl (by first | omega | (simp; omega))) ?_
  refine Z4e ?_
  refine ol_nil ?_
  refine px_blockN ?_
  have e1 : s ++ [128] ++ List.replicate (k + 1) 0 = s ++ [128] ++ List.replicate k 0 ++ [0] := by rw [List.replicate_succ']; simp
  refine px_loop2 (k + 1) (by omega) (by (try dsimp only); omega) ⟨congrArg (fun q => Value.string (B q)) e1.symm, trivial⟩ ?_ (fun _ s => s)
  exact Z2
 have hp1 := hb1
 (try simp only [bn] at hp1)
 obtain rfl : k = (zpad (s.length % 64)) := by omega
 refine Z21 ?_
 refine Z4w ?_
 refine oq (op_len_string Try.underlying9 rfl) ?_
 refine oq (op_conv64 Try.underlying142 (by rw [Try.underlying3]; rfl) rfl (by omega)) ?_
 refine oq (op_muln (C := 8) rfl rfl (by omega)) ?_
 refine Zb ?_
 refine Z12 ?_
 refine Z3i ?_
 refine cd_loop2 (α := Nat) [(3, 3), (5, 5), (27, 40)] (fun x => [(3, .string (B (s ++ [128] ++ List.replicate (zpad (s.length % 64)) 0 ++ be64 (s.length * 8) x))), (5, .int .i64 (7 - (x : Int)))]) (fun _ => _) (fun x => x ≤ 8) (fun x => 8 - x) 0 (Nat.zero_le _) ⟨congrArg (fun q => Value.string (B q)) (by simp [be64]), congrArg (Value.int .i64) (by simp), trivial⟩ (fun _ s => s) ?_
 rintro i hi f; (try dsimp only at hi ⊢)
 have hl8 : (s ++ [128] ++ List.replicate (zpad (s.length % 64)) 0 ++ be64 (s.length * 8) i).length = s.length + 1 + (zpad (s.length % 64)) + i := by simp [be64_len]; omega
 refine Zu ?_
 refine Z3p ?_
 refine cd_cond rfl (fun hb2 => ?_) (fun hb2 => ?_)
 ·have hp2 := hb2
  (try simp only [bn] at hp2)
  have hi8 : i < 8 := by omega
  refine Z3m ?_
  refine Z1d ?_
  refine Z4w ?_
  refine Z31 ?_
  refine Z83 ?_
  refine oq (op_conv64m (56 - 8 * i) Try.underlying74 (by rw [Try.underlying3]; rfl) rfl (by omega) (by omega)) ?_
  refine oq (op_shr_nat (m := 56 - 8 * i) rfl rfl (by show 56 - 8 * i ≤ 64; omega)) ?_
  refine oq (op_conv8 Try.underlying5 (by rw [Try.underlying142]; rfl) rfl) ?_
  refine oi (os_bslice (E := encU8) [_] (ys := [_]) sB_162 zv_5 rfl rfl rfl rfl (by decide)) ?_; rintro _ _ ⟨ao1, rfl, rfl⟩
  refine oq (op_b2s sB_162 Try.underlying5 Try.underlying9 rfl (rds_row 0 rfl rfl) rfl) ?_
  refine oq (op_sadd rfl rfl (by rw [hl8]; simp; omega)) ?_
  refine Z4e ?_
  refine ol_nil ?_
  refine Z4z ?_
  refine Z2p ?_
  refine Z2s ?_
  have e1 : s ++ [128] ++ List.replicate (zpad (s.length % 64)) 0 ++ be64 (s.length * 8) (i + 1) = s ++ [128] ++ List.replicate (zpad (s.length % 64)) 0 ++ be64 (s.length * 8) i ++ [UInt8.ofNat (s.length * 8 / 2 ^ (56 - 8 * i))] := by rw [be64_succ]; simp only [List.append_assoc]
  refine px_loop2 (i + 1) (by omega) (by (try dsimp only); omega) ⟨congrArg (fun q => Value.string (B q)) e1.symm, congrArg (Value.int .i64) (by omega), trivial⟩ ?_ (fun _ s => (s.del 0))
  exact Z2
 have hp2 := hb2
 (try simp only [bn] at hp2)
 obtain rfl : i = 8 := by omega
 have htl : (textM s).length = s.length + 1 + (zpad (s.length % 64)) + 8 := by unfold textM; simp [be64_len]; omega
 refine Z21 ?_
 refine Zbf ?_; intro bx2
 refine Z40 ?_
 refine oi (os_call cb_99 rfl (fun w s => primes_calls (n := 8)  s (by decide) (by decide))) ?_; rintro _ _ ⟨po1, pc1, rfl, rfl⟩
 refine oq (op_len_slice Try.underlying165 rfl) ?_
 refine Z1i ?_
 refine cd_loop2 (α := Nat) [(7, 8), (43, 52)] (fun x => [(43, .int .i64 (x : Int))]) (fun x => Blk bx2 (.cells (wC (fillN 8 (H0.take x))).toArray 164 (0, 0)) :: Row 142 encU64 (.slice po1 (prm (Int.toNat 8)).length pc1) (prm (Int.toNat 8)) :: Blk bx1 (.cells (rootC Root.zero).toArray 24 (0, 0)) :: l) (fun x => x ≤ 8) (fun x => 8 - x) 0 (Nat.zero_le _) ⟨rfl, trivial⟩ (fun _ s => (((s.pull 2).pull 1).pull 2)) ?_
 rintro i hi f; (try dsimp only at hi ⊢)
 refine Zv ?_
 refine cd_cond rfl (fun hb3 => ?_) (fun hb3 => ?_)
 ·have hp3 := hb3
  (try simp only [bn] at hp3)
  have hi8 : i < 8 := by omega
  have hroot := root8_at (i := i) (show i < (prm 8).length by rw [prm_len (by decide)]; omega)
  refine Z2m ?_
  refine oq (op_index _ sB_165 rfl rfl rfl (rds_row 1 rfl rfl) rfl (by omega)) ?_
  refine oq (op_ldw sc_142 (rds_row 1 rfl rfl) rfl (by omega) rfl) ?_
  refine Zw ?_
  refine Zb ?_
  refine Z1d ?_
  refine Z31 ?_
  refine oi (os_call cb_100 rfl (fun w s => root_calls (power := 2) _  s )) ?_; rintro _ _ ⟨rfl, rfl⟩
  refine oq (op_aidx0 i a1_164 rfl rfl rfl (by omega)) ?_
  refine oN (os_store (v := .int _ _) sc_163 rfl rfl rfl (Nat.ble_eq_true_of_le (show i + 1 ≤ _ by rw [List.size_toArray, wC_len, fillN_len (by rw [List.length_take]; show min i 8 ≤ 8; omega)]; omega)) (Free.zero _) (fillN_st rfl hi8 hroot)) ?_; rintro _ _ ⟨rfl, rfl⟩
  refine Z30 ?_
  refine px_loop2 (i + 1) (by omega) (by (try dsimp only); omega) ⟨congrArg (Value.int .i64) (by simp), trivial⟩ ?_ (fun _ s => s)
  exact Z2
 have hp3 := hb3
 (try simp only [bn] at hp3)
 obtain rfl : i = 8 := by omega
 rw [fill8]
 refine Z21 ?_
 refine Z9b ?_; intro bx3
 refine Z40 ?_
 refine oi (os_call cb_99 rfl (fun w s => primes_calls (n := 64)  s (by decide) (by decide))) ?_; rintro _ _ ⟨po3, pc3, rfl, rfl⟩
 refine oq (op_len_slice Try.underlying165 rfl) ?_
 refine Z1i ?_
 refine cd_loop2 (α := Nat) [(10, 11), (55, 64)] (fun x => [(55, .int .i64 (x : Int))]) (fun x => Blk bx3 (.cells (wC (fillN 64 (K64.take x))).toArray 168 (0, 0)) :: Row 142 encU64 (.slice po3 (prm (Int.toNat 64)).length pc3) (prm (Int.toNat 64)) :: Blk bx2 (.cells (wC H0).toArray 164 (0, 0)) :: Blk bx1 (.cells (rootC Root.zero).toArray 24 (0, 0)) :: l) (fun x => x ≤ 64) (fun x => 64 - x) 0 (Nat.zero_le _) ⟨rfl, trivial⟩ (fun _ s => (((((s.del 3).pull 3).pull 3).pull 2).pull 3)) ?_
 rintro i hi f; (try dsimp only at hi ⊢)
 refine Zv ?_
 refine cd_cond rfl (fun hb4 => ?_) (fun hb4 => ?_)
 ·have hp4 := hb4
  (try simp only [bn] at hp4)
  have hi64 : i < 64 := by omega
  have hroot := root64_at (i := i) (show i < (prm 64).length by rw [prm_len (by decide)]; omega)
  refine Z2m ?_
  refine oq (op_index _ sB_165 rfl rfl rfl (rds_row 1 rfl rfl) rfl (by omega)) ?_
  refine oq (op_ldw sc_142 (rds_row 1 rfl rfl) rfl (by omega) rfl) ?_
  refine Zw ?_
  refine Zb ?_
  refine Z1d ?_
  refine Z31 ?_
  refine oi (os_call cb_100 rfl (fun w s => root_calls (power := 3) _  s )) ?_; rintro _ _ ⟨rfl, rfl⟩
  refine oq (op_aidx0 i a1_168 rfl rfl rfl (by omega)) ?_
  refine oN (os_store (v := .int _ _) sc_163 rfl rfl rfl (Nat.ble_eq_true_of_le (show i + 1 ≤ _ by rw [List.size_toArray, wC_len, fillN_len (by rw [List.length_take, K64_len]; omega)]; omega)) (Free.zero _) (fillN_st K64_len hi64 hroot)) ?_; rintro _ _ ⟨rfl, rfl⟩
  refine Z30 ?_
  refine px_loop2 (i + 1) (by omega) (by (try dsimp only); omega) ⟨congrArg (Value.int .i64) (by simp), trivial⟩ ?_ (fun _ s => s)
  exact Z2
 have hp4 := hb4
 (try simp only [bn] at hp4)
 obtain rfl : i = 64 := by omega
 rw [fill64]
 refine Z1g ?_
 refine Z12 ?_
 refine Z3i ?_
 refine cd_loop2 (α := Nat) [(12, 12), (65, 78)] (fun x => [(12, .int .i64 ((64 * x : Nat) : Int))]) (fun x => Blk bx2 (.cells (w8C (run8 x H8 (textM s))).toArray 164 (0, 0)) :: Blk bx3 (.cells (wC K64).toArray 168 (0, 0)) :: Blk bx1 (.cells (rootC Root.zero).toArray 24 (0, 0)) :: l) (fun x => 64 * x ≤ (textM s).length) (fun x => (textM s).length - 64 * x) 0 (Nat.zero_le _) ⟨rfl, trivial⟩ (fun _ s => ((((s.del 1).pull 2).pull 1).pull 2)) ?_
 rintro i hi f; (try dsimp only at hi ⊢)
 refine Zu ?_
 refine Z4w ?_
 refine oq (op_len_string Try.underlying9 rfl) ?_
 refine Z3g ?_
 refine cd_cond rfl (fun hb5 => ?_) (fun hb5 => ?_)
 ·have hp5 := hb5
  (try simp only [bn] at hp5)
  have h64 : 64 * i + 64 ≤ (textM s).length := by omega
  refine Z3m ?_
  refine cd_drawt (M := []) mx [7] 8 (by kernel_rfl) rfl rfl ?_
  dsimp only [List.take_succ_cons, List.take_zero, List.drop_succ_cons, List.drop_zero]
  refine rg_q (wn_none rfl) (op_lda  0 ag_164 rfl rfl (w8C_take' _) (by simp [w8C_len])) rfl rfl ?_
  refine rg_q (wn_none rfl) (op_lda  1 ag_168 rfl rfl (show ((wC K64).toArray.toList.drop 0).take 64 = wC K64 from List.take_of_length_le (by show (wC K64).length ≤ 64; rw [wC_len, K64_len]; exact Nat.le_refl _)) (by simp [wC_len, K64_len])) rfl rfl ?_
  refine rg_q (wn_none rfl) (op_move (v := .string _) rfl) rfl rfl ?_
  refine Zg ?_
  refine Zg ?_
  refine Z7b ?_
  refine rg_q (wn_none rfl) (op_sslice (64 * i) (64 * i + 64) Try.underlying9 rfl rfl rfl rfl (by omega) (by omega) (by omega)) rfl rfl ?_
  refine rg_i (wn_none rfl) (os_call cb_101 rfl (fun w s => block_calls _ _  s (by rw [List.length_drop, List.length_take]; omega))) rfl rfl ?_; rintro _ _ ⟨rfl, rfl⟩; refine ⟨[], rfl, ?_⟩
  refine rg_tail0 ?_
  refine oN (os_storew (wC _) ag_164 rfl rfl (by rw [wC_len]; exact (blk8 _ _).2) (wC_one _) (by simp [wC_len, w8C_len]) (Free.zero _)) ?_; rintro _ _ ⟨rfl, rfl⟩
  refine ol_nil ?_
  refine Z6z ?_
  have e1 : run8 (i + 1) H8 (textM s) = blk8 (run8 i H8 (textM s)) (((textM s).take (64 * i + 64)).drop (64 * i)) := by rw [run8_last, List.drop_take, Nat.add_sub_cancel_left]
  refine px_loop2 (i + 1) (by omega) (by (try dsimp only); omega) ⟨congrArg (Value.int .i64) (by omega), trivial⟩ ?_ (fun _ s => (by (try dsimp only); rw [e1]; exact s))
  exact Z2
 have hp5 := hb5
 (try simp only [bn] at hp5)
 have hie : i = (textM s).length / 64 := by omega
 subst hie
 refine Z21 ?_
 refine Z1n ?_; intro bx4
 refine Z1 ?_
 refine Zu ?_
 refine Z4i ?_
 refine cd_loop2 (α := Nat) [(14, 14), (79, 95)] (fun x => [(79, .int .i64 (x : Int))]) (fun x => Blk bx4 (.cells (rootC (outP (run8 ((textM s).length / 64) H8 (textM s)) x)).toArray 24 (0, 0)) :: Blk bx2 (.cells (w8C (run8 ((textM s).length / 64) H8 (textM s))).toArray 164 (0, 0)) :: Blk bx1 (.cells (rootC Root.zero).toArray 24 (0, 0)) :: l) (fun x => x ≤ 32) (fun x => 32 - x) 0 (Nat.zero_le _) ⟨rfl, trivial⟩ (fun _ s1 => by rw [outP_zero]; exact (s1.del 2)) ?_
 rintro j hj f; (try dsimp only at hj ⊢)
 refine Zv ?_
 refine cd_cond rfl (fun hb6 => ?_) (fun hb6 => ?_)
 ·have hp6 := hb6
  (try simp only [bn] at hp6)
  have hj32 : j < 32 := by omega
  refine Z2m ?_
  refine Zb ?_
  refine Z1d ?_
  refine Z31 ?_
  refine oq (op_quonk (A := j) (C := 4) rfl rfl (by decide) (by omega)) ?_
  refine oq (op_aidx0 (j / 4) a1_164 rfl rfl rfl (by omega)) ?_
  refine oq (op_ld 1 sc_163 rfl rfl (wC_gd (ws := (run8 ((textM s).length / 64) H8 (textM s)).1) (by rw [(run8 ((textM s).length / 64) H8 (textM s)).2]; omega))) ?_
  refine Z4 ?_
  refine oq (op_remn (A := j) (C := 4) rfl rfl (by decide)) ?_
  refine Z83 ?_
  refine Z2p ?_
  refine oq (op_conv64m (24 - 8 * (j % 4)) Try.underlying74 (by rw [Try.underlying3]; rfl) rfl (by omega) (by omega)) ?_
  refine oq (op_shr32 (m := 24 - 8 * (j % 4)) _ rfl rfl (by omega)) ?_
  refine Z9g ?_
  refine oq (op_aidx0 j a1_24 rfl rfl rfl (by omega)) ?_
  refine oN (os_store (v := .int _ _) sc_5 rfl rfl rfl (Nat.ble_eq_true_of_le (show j + 1 ≤ _ by rw [List.size_toArray, rootC_len]; omega)) (Free.zero _) (rootC_set _ _ _)) ?_; rintro _ _ ⟨rfl, rfl⟩
  refine Z30 ?_
  refine px_loop2 (j + 1) (by omega) (by (try dsimp only); omega) ⟨congrArg (Value.int .i64) (by simp), trivial⟩ ?_ (fun _ s => (by (try dsimp only); rw [outP_succ _ hj32]; exact s))
  exact Z2
 have hp6 := hb6
 (try simp only [bn] at hp6)
 obtain rfl : j = 32 := by omega
 refine Z21 ?_
 refine Z2n ?_
 refine Zs ?_
 refine Z54 ?_
 exact px_rv1 rfl (rv_cella 0 ag_24 rfl rfl (rootC_take' _) (by simp [rootC_len])) (fun _ s => (((s.del 2).del 1).del 0)) ⟨by rw [shaM_text]; rfl, rfl⟩
end Go.SL

set_option linter.unusedVariables false
set_option linter.unusedSimpArgs false
namespace Go.SL
open Go.Proofs

set_option maxRecDepth 100000 in
set_option maxHeartbeats 1000000 in
theorem GRBytes_calls {w0 w : World} {l : List HProp} (ao : Option Addr) (c : Nat) (xs : List Val) (n1 n2 n3 n4 n5 n6 n7 n8 n9 n10 n11 : Int) (hs : Sat w0 w (l)) (hr : Rds w0 l encVal ao xs) (hxl : xs.length ≤ 64) (hk : ∀ y ∈ xs, y.key.length ≤ 32) :
  Calls Try.prog 87 #[.agg (cfgC ⟨⟨ao, xs.length, c⟩, n1, n2, n3, n4, n5, n6, n7, n8, n9, n10, n11⟩).toArray] w (Ret w0 fun v l' => v = .string (B (bytesC ⟨⟨ao, xs.length, c⟩, n1, n2, n3, n4, n5, n6, n7, n8, n9, n10, n11⟩ xs)) ∧ l' = l) := by
 have h12 : (nums12 ⟨⟨ao, xs.length, c⟩, n1, n2, n3, n4, n5, n6, n7, n8, n9, n10, n11⟩ xs.length).length = 12 := rfl
 have h24 : (numsL ⟨⟨ao, xs.length, c⟩, n1, n2, n3, n4, n5, n6, n7, n8, n9, n10, n11⟩ xs.length).length = 24 := rfl
 have hlA := bytesA_length (nums12 ⟨⟨ao, xs.length, c⟩, n1, n2, n3, n4, n5, n6, n7, n8, n9, n10, n11⟩ xs.length)
 refine calls_enter Try.func87 rfl rfl rfl hs ?_
 refine Z18 ?_; intro bx1
 refine Z4e ?_
 refine Z1b ?_
 refine Z4e ?_
 refine Z1b ?_
 refine Z4f ?_
 refine oi (os_call cb_102 rfl (fun w s => Numbers_calls _ _ _ _ _ _ _ _ _ _ _ _ _ _  s (hr.cons _))) ?_; rintro _ _ ⟨no1, nc1, rfl, rfl⟩
 refine Zx ?_
 refine Z40 ?_
 refine Z3i ?_
 refine cd_loop2 (α := Nat) [(3, 3), (5, 5), (10, 23)] (fun x => [(3, .string (B (bytesA ((nums12 ⟨⟨ao, xs.length, c⟩, n1, n2, n3, n4, n5, n6, n7, n8, n9, n10, n11⟩ xs.length).take x)))), (5, .int .i64 ((2 * x : Nat) : Int))]) (fun _ => _) (fun x => x ≤ 12) (fun x => 12 - x) 0 (Nat.zero_le _) ⟨rfl, rfl, trivial⟩ (fun _ s => s) ?_
 rintro i hi f; (try dsimp only at hi ⊢)
 refine Zu ?_
 refine Za ?_
 refine Z5w ?_
 refine Z3g ?_
 refine cd_cond rfl (fun hb1 => ?_) (fun hb1 => ?_)
 ·have hp1 := hb1
  (try simp only [bn] at hp1)
  have hi12 : i < 12 := by omega
  have hu4 := u64N_lt (numsL ⟨⟨ao, xs.length, c⟩, n1, n2, n3, n4, n5, n6, n7, n8, n9, n10, n11⟩ xs.length)[2 * i]
  have hla := bytesA_length ((nums12 ⟨⟨ao, xs.length, c⟩, n1, n2, n3, n4, n5, n6, n7, n8, n9, n10, n11⟩ xs.length).take i)
  rw [List.length_take] at hla
  have hat := nums12_at ⟨⟨ao, xs.length, c⟩, n1, n2, n3, n4, n5, n6, n7, n8, n9, n10, n11⟩ xs.length i hi12 (by omega) (by omega)
  refine Z3m ?_
  refine Z1d ?_
  refine Z4w ?_
  refine Za ?_
  refine Z4 ?_
  refine oq (op_index (2 * i) sB_42 rfl rfl rfl (rds_row 0 rfl rfl) rfl (by omega)) ?_
  refine oq (op_ldw sc_3 (rds_row 0 rfl rfl) rfl (by omega) rfl) ?_
  refine oq (op_conv64i Try.underlying142 (by rw [Try.underlying3]; rfl) rfl) ?_
  refine oi (os_call cb_103 rfl (fun w s => RPut_calls (wd := 4) _ _  s (show clamp8 4 = 4 from rfl) (by omega))) ?_; rintro _ _ ⟨rfl, rfl⟩
  refine oq (op_sadd rfl rfl (by rw [hla, putB_length]; omega)) ?_
  refine Z4e ?_
  refine ol_nil ?_
  refine Z6z ?_
  have e1 := bytesA_succ (nums12 ⟨⟨ao, xs.length, c⟩, n1, n2, n3, n4, n5, n6, n7, n8, n9, n10, n11⟩ xs.length) i (by omega)
  rw [← hat] at e1
  refine px_loop2 (i + 1) (by omega) (by (try dsimp only); omega) ⟨congrArg (fun q => Value.string (B q)) e1.symm, congrArg (Value.int .i64) (by omega), trivial⟩ ?_ (fun _ s => s)
  exact Z2
 have hp1 := hb1
 (try simp only [bn] at hp1)
 obtain rfl : i = 12 := by omega
 rw [List.take_of_length_le (show (nums12 ⟨⟨ao, xs.length, c⟩, n1, n2, n3, n4, n5, n6, n7, n8, n9, n10, n11⟩ xs.length).length ≤ 12 from Nat.le_refl _)]
 refine Z1g ?_
 refine Z12 ?_
 refine Z4d ?_
 refine oq (op_ld 1 sc_63 rfl rfl (cfgC_a0 _)) ?_
 refine Z4v ?_
 refine Z1i ?_
 refine cd_loop2 (α := Nat) [(3, 3), (7, 7), (27, 46)] (fun x => [(3, .string (B (bytesA (nums12 ⟨⟨ao, xs.length, c⟩, n1, n2, n3, n4, n5, n6, n7, n8, n9, n10, n11⟩ xs.length) ++ bytesV (xs.take x)))), (27, .int .i64 (x : Int))]) (fun x => Blk bx1 (.cells (cfgC ⟨⟨ao, xs.length, c⟩, n1, n2, n3, n4, n5, n6, n7, n8, n9, n10, n11⟩).toArray 65 (0, 0)) :: l) (fun x => x ≤ xs.length) (fun x => xs.length - x) 0 (Nat.zero_le _) ⟨congrArg (fun q => Value.string (B q)) (by simp [bytesV]), rfl, trivial⟩ (fun _ s => (s.del 0)) ?_
 rintro j hj f; (try dsimp only at hj ⊢)
 refine Zv ?_
 refine cd_cond rfl (fun hb2 => ?_) (fun hb2 => ?_)
 ·have hp2 := hb2
  (try simp only [bn] at hp2)
  have hj1 : j < xs.length := by omega
  have hu8 := u64N_lt xs[j].stake
  have hk1 := hk xs[j] (List.getElem_mem _)
  have hbv := bytesV_length (l := xs.take j) fun y hy => hk y (List.mem_of_mem_take hy)
  rw [List.length_take] at hbv
  have e2 := bytesV_succ xs j hj1
  refine Z2y ?_
  refine oq (op_index _ sB_63 rfl rfl rfl (hr.cons _) rfl (by omega)) ?_
  refine oq (op_ldaw (L := valC _) ag_78 (hr.cons _) rfl (by omega) rfl (valC_ta _)) ?_
  refine Z98 ?_; intro bx2
  refine Z99 ?_
  refine Z1 ?_
  refine cd_draw (M := []) mx [4, 10] (by kernel_rfl) ?_
  refine rg_q (wn_none rfl) (op_move (v := .string _) rfl) rfl rfl ?_
  refine rg_q (wn_none rfl) (op_field fld_78_0 rfl) rfl rfl ?_
  refine Ze5 ?_
  refine rg_i (wn_none rfl) (os_call cb_103 rfl (fun w s => RPut_calls (wd := 8) _ _  s (show clamp8 8 = 8 from rfl) (by omega))) rfl rfl ?_; rintro _ _ ⟨rfl, rfl⟩; refine ⟨[], rfl, ?_⟩
  refine rg_q (wn_none rfl) (op_sadd rfl rfl (by rw [putB_length, List.length_append]; omega)) rfl rfl ?_
  refine Zb2 ?_
  refine Zdy ?_
  refine rg_i (wn_none rfl) (os_call cb_103 rfl (fun w s => RPut_calls (wd := 1) _ _  s (show clamp8 1 = 1 from rfl) (by omega))) rfl rfl ?_; rintro _ _ ⟨rfl, rfl⟩; refine ⟨[], rfl, ?_⟩
  refine rg_q (wn_none rfl) (op_sadd rfl rfl (by rw [putB_length, List.length_append, List.length_append, putB_length]; omega)) rfl rfl ?_
  refine Zb2 ?_
  refine rg_q (wn_none rfl) (op_sadd rfl rfl (by simp only [putB_length, List.length_append]; omega)) rfl rfl ?_
  refine rg_q (wn_none rfl) (op_assign (v := .string _) rfl) rfl rfl ?_
  refine rg_nil0 ?_
  refine Z5z ?_
  have e3 : bytesA (nums12 ⟨⟨ao, xs.length, c⟩, n1, n2, n3, n4, n5, n6, n7, n8, n9, n10, n11⟩ xs.length) ++ bytesV (xs.take (j + 1)) = bytesA (nums12 ⟨⟨ao, xs.length, c⟩, n1, n2, n3, n4, n5, n6, n7, n8, n9, n10, n11⟩ xs.length) ++ bytesV (xs.take j) ++ putB (u64N xs[j].stake) 8 ++ putB xs[j].key.length 1 ++ xs[j].key := by rw [e2]; simp only [List.append_assoc]
  refine px_loop2 (j + 1) (by omega) (by (try dsimp only); omega) ⟨congrArg (fun q => Value.string (B q)) e3.symm, congrArg (Value.int .i64) (by simp), trivial⟩ ?_ (fun _ s => (s.del 0))
  exact Z2
 have hp2 := hb2
 (try simp only [bn] at hp2)
 obtain rfl : j = xs.length := by omega
 rw [List.take_length]
 refine Z21 ?_
 refine Z4w ?_
 refine Z4e ?_
 refine Z1z ?_
 exact px_ret1 rfl (v := .string _) rfl (fun _ s => (s.del 0)) ⟨rfl, rfl⟩

theorem bytesC_le {q : Cfg} {xs : List Val} (hxl : xs.length ≤ 64) (hk : ∀ y ∈ xs, y.key.length ≤ 32) : (bytesC q xs).length ≤ 3000 := by
 unfold bytesC
 have h1 := bytesV_length hk
 rw [List.length_append, bytesA_length]
 have h2 : (nums12 q xs.length).length = 12 := rfl
 omega

set_option maxRecDepth 100000 in
set_option maxHeartbeats 1000000 in
theorem GRoot_calls {w0 w : World} {l : List HProp} (ao : Option Addr) (c : Nat) (xs : List Val) (n1 n2 n3 n4 n5 n6 n7 n8 n9 n10 n11 : Int) (hs : Sat w0 w (l)) (hr : Rds w0 l encVal ao xs) (hxl : xs.length ≤ 64) (hk : ∀ y ∈ xs, y.key.length ≤ 32) :
  Calls Try.prog 84 #[.agg (cfgC ⟨⟨ao, xs.length, c⟩, n1, n2, n3, n4, n5, n6, n7, n8, n9, n10, n11⟩).toArray] w (Ret w0 fun v l' => v = .agg (rootC (shaM ([116, 111, 108, 108, 101, 114] ++ bytesC ⟨⟨ao, xs.length, c⟩, n1, n2, n3, n4, n5, n6, n7, n8, n9, n10, n11⟩ xs))).toArray ∧ l' = l) := by
 have hbl := bytesC_le (q := ⟨⟨ao, xs.length, c⟩, n1, n2, n3, n4, n5, n6, n7, n8, n9, n10, n11⟩) hxl hk
 refine calls_enter Try.func84 rfl rfl rfl hs ?_
 refine Z18 ?_; intro bx1
 refine Z1n ?_; intro bx2
 refine Z1b ?_
 refine Zal ?_
 refine oi (os_call cb_98 rfl (fun w s => GBytes_calls _ _ _ _ _ _ _ _ _ _ _ _ _ _  s ((hr.cons _).cons _) (by omega) (by assumption))) ?_; rintro _ _ ⟨rfl, rfl⟩
 refine oi (os_bslice (E := encStr) [_, _] (ys := [[116, 111, 108, 108, 101, 114], bytesC ⟨⟨ao, xs.length, c⟩, n1, n2, n3, n4, n5, n6, n7, n8, n9, n10, n11⟩ xs]) sB_175 zv_9 rfl rfl rfl rfl (by decide)) ?_; rintro _ _ ⟨ao1, rfl, rfl⟩
 refine oi (os_call cb_97 rfl (fun w s => Of_calls _ _ _  s (rds_row 0 rfl rfl) (by rw [List.flatten_cons, List.flatten_cons, List.flatten_nil, List.append_nil, List.length_append]; show 6 + _ < _; omega) (by show 2 ≤ 1000000; omega))) ?_; rintro _ _ ⟨rfl, rfl⟩
 refine Z8 ?_
 refine Z54 ?_
 exact px_rv1 rfl (rv_cella 0 ag_24 rfl rfl (rootC_take' _) (by simp [rootC_len])) (fun _ s => (((s.del 2).del 1).del 0)) ⟨by rw [List.flatten_cons, List.flatten_cons, List.flatten_nil, List.append_nil], rfl⟩

set_option maxRecDepth 100000 in
set_option maxHeartbeats 1000000 in
theorem RRoot_calls {w0 w : World} {l : List HProp} (ao : Option Addr) (c : Nat) (xs : List Val) (n1 n2 n3 n4 n5 n6 n7 n8 n9 n10 n11 : Int) (hs : Sat w0 w (l)) (hr : Rds w0 l encVal ao xs) (hxl : xs.length ≤ 64) (hk : ∀ y ∈ xs, y.key.length ≤ 32) :
  Calls Try.prog 63 #[.agg (cfgC ⟨⟨ao, xs.length, c⟩, n1, n2, n3, n4, n5, n6, n7, n8, n9, n10, n11⟩).toArray] w (Ret w0 fun v l' => v = .agg (rootC (shaM ([116, 111, 108, 108, 101, 114] ++ bytesC ⟨⟨ao, xs.length, c⟩, n1, n2, n3, n4, n5, n6, n7, n8, n9, n10, n11⟩ xs))).toArray ∧ l' = l) := by
 have hbl := bytesC_le (q := ⟨⟨ao, xs.length, c⟩, n1, n2, n3, n4, n5, n6, n7, n8, n9, n10, n11⟩) hxl hk
 refine calls_enter Try.func63 rfl rfl rfl hs ?_
 refine Z18 ?_; intro bx1
 refine Z1n ?_; intro bx2
 refine Z1b ?_
 refine Zal ?_
 refine oi (os_call cb_87 rfl (fun w s => GRBytes_calls _ _ _ _ _ _ _ _ _ _ _ _ _ _  s ((hr.cons _).cons _) (by omega) (by assumption))) ?_; rintro _ _ ⟨rfl, rfl⟩
 refine oq (op_sadd (a := [116, 111, 108, 108, 101, 114]) rfl rfl (by show 6 + _ ≤ _; omega)) ?_
 refine oi (os_call cb_86 rfl (fun w s => ROf_calls _  s (by rw [List.length_append]; show 6 + _ ≤ _; omega))) ?_; rintro _ _ ⟨rfl, rfl⟩
 refine Z54 ?_
 exact px_rv1 rfl (rv_cella 0 ag_24 rfl rfl (rootC_take' _) (by simp [rootC_len])) (fun _ s => ((s.del 1).del 0)) ⟨rfl, rfl⟩
end Go.SL

set_option linter.unusedVariables false
set_option linter.unusedSimpArgs false
namespace Go.SL
def stk (vs : List Val) (w : Nat) : Int := (vs.getD w Val.zero).stake
theorem stk_get {vs : List Val} {w : Nat} (h : w < vs.length) : stk vs w = vs[w].stake := by simp [stk, List.getD_eq_getElem?_getD, h]
/-- for what a validator stands: its latest vote's block, if it counts -/
def effT (tb : TabS) (w : Nat) : Option Root := if tb.counts (w : Int) = true then (tb.vote (w : Int)).map (·.target) else none
def shareE (vs : List Val) (E : Nat → Option Root) (r : Root) (w : Nat) : Int := if E w = some r then stk vs w else 0
def allE (vs : List Val) (E : Nat → Option Root) (r : Root) : Int := sg (shareE vs E r) vs.length
def ownE (vs : List Val) (E : Nat → Option Root) (ns : List Node) : List Int := tab ns.length fun i => allE vs E (rtA ns i)
structure StkOK (vs : List Val) : Prop where
  nn : ∀ w, 0 ≤ stk vs w
  tt : sg (stk vs) vs.length < 4611686018427387904
def inE (ns : List Node) (E : Nat → Option Root) (w : Nat) : Bool := match E w with | some r => (idxOf ns r).isSome | none => false
def updE (E : Nat → Option Root) (w : Nat) (x : Option Root) : Nat → Option Root := fun k => if k = w then x else E k
section
variable {vs : List Val} {E E' : Nat → Option Root} {ns : List Node} {r : Root} {w i k : Nat}
theorem place_idx {t : TreeS} : (idxOf t.nodes r = none ∧ t.place r = -1) ∨ ∃ a, idxOf t.nodes r = some a ∧ t.place r = (a : Int) ∧ a < t.nodes.length ∧ rtA t.nodes a = r := by
  unfold TreeS.place
  cases h : idxOf t.nodes r with
  | none => exact .inl ⟨rfl, rfl⟩
  | some a =>
    obtain ⟨n, h2, h3⟩ := idxOf_some h
    exact .inr ⟨a, rfl, rfl, idxOf_lt h, by unfold rtA; rw [h2]; exact h3⟩
theorem sg_swap (f : Nat → Nat → Int) (n m : Nat) : sg (fun i => sg (f i) m) n = sg (fun w => sg (fun i => f i w) n) m := by
  induction n with
  | zero => exact (sg_zero fun _ _ => rfl).symm
  | succ n ih =>
    rw [sg_succ, ih, ← sg_add]
    exact sg_congr fun j _ => rfl
theorem ownE_len (vs : List Val) (E : Nat → Option Root) (ns : List Node) : (ownE vs E ns).length = ns.length := tab_len _ _
theorem ownE_at (h : i < ns.length) : oA (ownE vs E ns) i = allE vs E (rtA ns i) := tab_oA h
theorem share_nn (h : StkOK vs) : 0 ≤ shareE vs E r w := by unfold shareE; split; exact h.nn w; exact Int.le_refl _
theorem share_le (h : StkOK vs) : shareE vs E r w ≤ stk vs w := by
  unfold shareE; split
  · exact Int.le_refl _
  · exact h.nn w
theorem all_nn (h : StkOK vs) : 0 ≤ allE vs E r := sg_nonneg fun _ _ => share_nn h
theorem all_le (h : StkOK vs) : allE vs E r ≤ sg (stk vs) vs.length := sg_le fun _ _ => share_le h
theorem tot_ownE {t : TreeS} (hw : t.WF) : tot (ownE vs E t.nodes) = sg (fun w => if inE t.nodes E w = true then stk vs w else 0) vs.length := by
  unfold tot
  rw [ownE_len]
  have h1 : sg (oA (ownE vs E t.nodes)) t.nodes.length = sg (fun i => sg ((fun i => shareE vs E (rtA t.nodes i)) i) vs.length) t.nodes.length := sg_congr fun i hi => ownE_at hi
  rw [h1, sg_swap]
  refine sg_congr fun w _ => ?_
  unfold shareE
  cases hE : E w with
  | none =>
    have hin : inE t.nodes E w = false := by unfold inE; rw [hE]
    rw [hin, if_neg (by simp)]; exact sg_zero fun i _ => by rw [if_neg (by simp)]
  | some r =>
    have hin : inE t.nodes E w = (idxOf t.nodes r).isSome := by unfold inE; rw [hE]
    rw [hin]
    rcases place_idx (t := t) (r := r) with ⟨hr, _⟩ | ⟨a, hr, _, ha, hra⟩
    · rw [hr, if_neg (by simp)]
      refine sg_zero fun i hi => ?_
      rw [if_neg]
      intro q
      have : r = rtA t.nodes i := Option.some.inj q
      subst this
      rw [idx_rt hw hi] at hr; cases hr
    · rw [hr, if_pos (by simp)]
      have h4 : sg (fun i => if some r = some (rtA t.nodes i) then stk vs w else 0) t.nodes.length = sg (fun i => if i = a then stk vs w else 0) t.nodes.length := by
        refine sg_congr fun i hi => ?_
        by_cases e : i = a
        · subst e; rw [if_pos rfl, if_pos (by rw [hra])]
        · rw [if_neg e, if_neg]
          intro q
          have q2 : r = rtA t.nodes i := Option.some.inj q
          exact e (rtA_inj hw.nd hi ha (by rw [hra, ← q2]))
      rw [h4, sg_one, if_pos ha]
theorem ownE_ok (h : StkOK vs) {t : TreeS} (hw : t.WF) : OwnOK (ownE vs E t.nodes) := by
  refine ⟨fun j => ?_, ?_⟩
  · rcases Nat.lt_or_ge j t.nodes.length with hj | hj
    · rw [ownE_at hj]; exact all_nn h
    · rw [oA_out (by rw [ownE_len]; exact hj)]; exact Int.le_refl _
  · rw [tot_ownE hw]
    have h1 : sg (fun w => if inE t.nodes E w = true then stk vs w else 0) vs.length ≤ sg (stk vs) vs.length := sg_le fun w _ => by
      split
      · exact Int.le_refl _
      · exact h.nn w
    have := h.tt
    omega
/-- so much more, or less, of one -/
theorem apply_d {t : TreeS} (hw : t.WF) {o : List Int} (ho : OwnOK o) (hl : o.length = t.nodes.length) {a : Nat} (ha : a < t.nodes.length) {d : Int} (h0 : 0 ≤ oA o a + d) (h1 : tot o + d < 4611686018427387904) (h2 : -4611686018427387904 < d) (h3 : d < 4611686018427387904) :
    applyO t.nodes o [⟨rtA t.nodes a, d⟩] = (0, o.set a (oA o a + d)) := by
  have hle : oA o a ≤ tot o := sg_get (f := oA o) (m := o.length) (fun j _ => ho.nn j) (i := a) (by omega)
  have e1 : tot (o.set a (oA o a + d)) = tot o + d := by rw [tot_set (by omega)]; omega
  have hs : stepO t.nodes o ⟨rtA t.nodes a, d⟩ = (0, o.set a (oA o a + d)) := stepO_in (i := a) (idx_rt hw ha) (by show ¬ (d ≤ _ ∨ _ ≤ d); omega) (by show ¬ (oA o a + d < 0 ∨ _ ≤ oA o a + d); omega)
  have hr : runO t.nodes o [⟨rtA t.nodes a, d⟩] = (0, o.set a (oA o a + d)) := by
    show (if (stepO t.nodes o ⟨rtA t.nodes a, d⟩).1 = 0 then runO t.nodes (stepO t.nodes o ⟨rtA t.nodes a, d⟩).2 [] else _) = _
    rw [hs, if_pos rfl]; rfl
  unfold applyO
  dsimp only
  rw [growO_same hl, hr, if_pos rfl, if_pos (by dsimp only; rw [e1]; exact h1)]
def putO (t : TreeS) (o : List Int) (r : Root) (n : Int) : List Int := if t.place r < 0 then o else (applyO t.nodes o [⟨r, n⟩]).2
theorem ownE_set {t : TreeS} (hw : t.WF) {a : Nat} (ha : a < t.nodes.length) {d : Int} (hra : rtA t.nodes a = r) (h : ∀ r', allE vs E' r' = allE vs E r' + if r' = r then d else 0) : (ownE vs E t.nodes).set a (oA (ownE vs E t.nodes) a + d) = ownE vs E' t.nodes := by
  refine oA_ext (by rw [List.length_set, ownE_len, ownE_len]) fun j => ?_
  rw [oA_set (by rw [ownE_len]; exact ha)]
  by_cases e : j = a
  · subst e; rw [if_pos rfl, ownE_at ha, ownE_at ha, h, if_pos hra]
  · rw [if_neg e]
    rcases Nat.lt_or_ge j t.nodes.length with hj | hj
    · rw [ownE_at hj, ownE_at hj, h, if_neg (fun q => e (rtA_inj hw.nd hj ha (by rw [q, hra]))), Int.add_zero]
    · rw [oA_out (by rw [ownE_len]; exact hj), oA_out (by rw [ownE_len]; exact hj)]
theorem put_gen (hs : StkOK vs) {t : TreeS} (hw : t.WF) {d : Int} (h2 : -4611686018427387904 < d) (h3 : d < 4611686018427387904) (h : ∀ r', allE vs E' r' = allE vs E r' + if r' = r then d else 0) : putO t (ownE vs E t.nodes) r d = ownE vs E' t.nodes := by
  unfold putO
  rcases place_idx (t := t) (r := r) with ⟨hi, hp⟩ | ⟨a, hi, hp, ha, hra⟩
  · rw [if_pos (by omega)]
    exact tab_congr fun i hi2 => by
      rw [h, if_neg (fun q => by rw [← q, idx_rt hw hi2] at hi; cases hi), Int.add_zero]
  · rw [if_neg (by omega)]
    have hset := ownE_set hw ha hra h
    have hok := ownE_ok (E := E') hs hw
    have h4 : 0 ≤ oA (ownE vs E t.nodes) a + d := by
      have h5 := hok.nn a
      rw [← hset, oA_set (by rw [ownE_len]; exact ha), if_pos rfl] at h5
      exact h5
    have h6 : tot (ownE vs E t.nodes) + d < 4611686018427387904 := by
      have h7 := hok.tt
      rw [← hset, tot_set (by rw [ownE_len]; exact ha)] at h7
      omega
    have := apply_d hw (ownE_ok (E := E) hs hw) (ownE_len _ _ _) ha h4 h6 h2 h3
    rw [hra] at this
    rw [this]; exact hset
theorem all_upd (hw : w < vs.length) (x : Option Root) (r' : Root) : allE vs (updE E w x) r' = allE vs E r' + ((if x = some r' then stk vs w else 0) - (if E w = some r' then stk vs w else 0)) := by
  unfold allE
  have h1 : sg (shareE vs (updE E w x) r') vs.length = sg (fun k => shareE vs E r' k + (if k = w then (if x = some r' then stk vs w else 0) - (if E w = some r' then stk vs w else 0) else 0)) vs.length := by
    refine sg_congr fun k _ => ?_
    unfold shareE updE
    by_cases e : k = w
    · subst e; rw [if_pos rfl, if_pos rfl]; omega
    · rw [if_neg e, if_neg e, Int.add_zero]
  rw [h1, sg_add, sg_one, if_pos hw]
theorem stk_lt (hs : StkOK vs) (hw : w < vs.length) : 0 ≤ stk vs w ∧ stk vs w < 4611686018427387904 := by
  have h1 := hs.nn w
  have h2 := sg_get (f := stk vs) (m := vs.length) (fun j _ => hs.nn j) hw
  have := hs.tt
  exact ⟨h1, by omega⟩
theorem put_less (hs : StkOK vs) {t : TreeS} (ht : t.WF) (hw : w < vs.length) (hE : E w = some r) : putO t (ownE vs E t.nodes) r (-(stk vs w)) = ownE vs (updE E w none) t.nodes := by
  have h1 := stk_lt hs hw
  refine put_gen hs ht (by omega) (by omega) fun r' => ?_
  rw [all_upd hw, hE, if_neg (by simp)]
  by_cases e : r' = r
  · subst e; rw [if_pos rfl, if_pos rfl]; omega
  · rw [if_neg (fun q => e (Option.some.inj q).symm), if_neg e]; omega
theorem put_more (hs : StkOK vs) {t : TreeS} (ht : t.WF) (hw : w < vs.length) (hE : E w = none) : putO t (ownE vs E t.nodes) r (stk vs w) = ownE vs (updE E w (some r)) t.nodes := by
  have h1 := stk_lt hs hw
  refine put_gen hs ht (by omega) (by omega) fun r' => ?_
  rw [all_upd hw, hE, if_neg (show ¬ (none : Option Root) = some r' by simp)]
  by_cases e : r' = r
  · subst e; rw [if_pos rfl, if_pos rfl]; omega
  · rw [if_neg (fun q => e (Option.some.inj q).symm), if_neg e]; omega
theorem put_zero (hs : StkOK vs) {t : TreeS} (ht : t.WF) : putO t (ownE vs E t.nodes) r 0 = ownE vs E t.nodes := put_gen hs ht (by decide) (by decide) fun r' => by split <;> omega
theorem updE_self {x : Option Root} (h : E w = x) : updE E w x = E := by funext k; unfold updE; split <;> simp_all
theorem updE_updE (x y : Option Root) : updE (updE E w x) w y = updE E w y := by funext k; unfold updE; split <;> rfl
theorem updE_at (x : Option Root) : updE E w x w = x := if_pos rfl
theorem ownE_congr (h : ∀ w, w < vs.length → E w = E' w) (ns : List Node) : ownE vs E ns = ownE vs E' ns := tab_congr fun i _ => sg_congr fun w hw => by unfold shareE; rw [h w hw]
/-- a block more -/
theorem add_ownE (hs : StkOK vs) {t : TreeS} (hw : t.WF) {p : Root} {slot : Int} (h : (t.add r p slot).1 = 0) : applyO (t.add r p slot).2.nodes (ownE vs E t.nodes) [⟨r, allE vs E r⟩] = (0, ownE vs E (t.add r p slot).2.nodes) := by
  have hw2 := hw.add r p slot
  have hx : ∃ x : Node, x.root = r ∧ (t.add r p slot).2.nodes = t.nodes ++ [x] := by
    rcases TreeS.add_cases t r p slot with h1
    unfold TreeS.add at h ⊢
    split at h
    · cases h
    · rename_i h3
      rw [if_neg h3]
      split at h
      · cases h
      · split at h
        · cases h
        · split at h
          · cases h
          · rename_i j hj h5 h6
            exact ⟨⟨r, slot, (j : Int)⟩, rfl, by rw [if_neg h5, if_neg h6]⟩
  obtain ⟨x, hx1, hx2⟩ := hx
  have hl2 : (t.add r p slot).2.nodes.length = t.nodes.length + 1 := by rw [hx2]; simp
  have hrn : rtA (t.add r p slot).2.nodes t.nodes.length = r := by unfold rtA; rw [hx2]; simp [hx1]
  have hrt : ∀ i, i < t.nodes.length → rtA (t.add r p slot).2.nodes i = rtA t.nodes i := fun i hi => by rw [hx2]; exact rtA_app hi
  rw [applyO_grow _ _ _ (by rw [ownE_len]; omega)]
  have hgl : (growO (t.add r p slot).2.nodes.length (ownE vs E t.nodes)).length = (t.add r p slot).2.nodes.length := growO_len (by rw [ownE_len]; omega)
  have hset : (growO (t.add r p slot).2.nodes.length (ownE vs E t.nodes)).set t.nodes.length (oA (growO (t.add r p slot).2.nodes.length (ownE vs E t.nodes)) t.nodes.length + allE vs E r) = ownE vs E (t.add r p slot).2.nodes := by
    refine oA_ext (by rw [List.length_set, hgl, ownE_len]) fun j => ?_
    rw [oA_set (by rw [hgl]; omega)]
    by_cases e : j = t.nodes.length
    · subst e
      rw [if_pos rfl, grow_oA, oA_out (by rw [ownE_len]; exact Nat.le_refl _), ownE_at (by omega), hrn]; omega
    · rw [if_neg e, grow_oA]
      rcases Nat.lt_or_ge j t.nodes.length with hj | hj
      · rw [ownE_at hj, ownE_at (by omega), hrt j hj]
      · rw [oA_out (by rw [ownE_len]; exact hj), oA_out (by rw [ownE_len]; omega)]
  have hok := ownE_ok (E := E) hs hw2
  have hal := all_le (E := E) (r := r) hs
  have haln := all_nn (E := E) (r := r) hs
  have htt := hs.tt
  have h6 : tot (growO (t.add r p slot).2.nodes.length (ownE vs E t.nodes)) + allE vs E r < 4611686018427387904 := by
    have h7 := hok.tt
    rw [← hset, tot_set (by rw [hgl]; omega)] at h7
    omega
  have h8 : oA (growO (t.add r p slot).2.nodes.length (ownE vs E t.nodes)) t.nodes.length = 0 := by rw [grow_oA, oA_out (by rw [ownE_len]; exact Nat.le_refl _)]
  have := apply_d hw2 ((ownE_ok (E := E) hs hw).zeros _) hgl (a := t.nodes.length) (by omega) (d := allE vs E r) (by show 0 ≤ oA (growO _ _) _ + _; omega) h6 (by omega) (by omega)
  rw [hrn] at this
  rw [← hset]; exact this
/-- what is left -/
theorem pr_ownE {t : TreeS} (hw : t.WF) (a : Nat) : prO t.nodes a (ownE vs E t.nodes) = ownE vs E (prT t a).nodes := by
  refine oA_ext (by rw [prO_len, ownE_len]; exact (prN_len _ _ _).symm) fun j => ?_
  rcases Nat.lt_or_ge j (rk t.nodes a t.nodes.length) with hj | hj
  · obtain ⟨i, _, q2, q3, q4⟩ := selI_at hj
    have h1 : rtA (prT t a).nodes j = rtA t.nodes i := by rw [← q4]; exact rt_pr q2 q3
    rw [← q4, prO_at q2 q3, ownE_at q2, q4, ownE_at (by show j < (prN t.nodes a t.nodes.length).length; rw [prN_len]; exact hj), h1]
  · rw [oA_out (by rw [prO_len]; exact hj), oA_out (by rw [ownE_len]; show (prN t.nodes a t.nodes.length).length ≤ j; rw [prN_len]; exact hj)]
theorem take_eff {tb : TabS} (v : Vote) (h : tb.WF) : ((tb.take v).1 = 0 ∧ (0 ≤ v.who ∧ v.who < tb.latest.length) ∧ tb.counts v.who = true ∧ (∀ k, effT (tb.take v).2 k = updE (effT tb) v.who.toNat (some v.target) k)) ∨
    ((tb.take v).1 = 2 ∧ (0 ≤ v.who ∧ v.who < tb.latest.length) ∧ tb.counts v.who = true ∧ (∀ k, effT (tb.take v).2 k = updE (effT tb) v.who.toNat none k)) ∨
    ((tb.take v).1 ≠ 0 ∧ (tb.take v).1 ≠ 2 ∧ ∀ k, effT (tb.take v).2 k = effT tb k) := by
  rcases TabS.take_cases tb v h with ⟨h1, h2⟩ | ⟨⟨h1, h2, h3, h4⟩, h5⟩
  · rw [h2]; exact .inr (.inr ⟨by simp, by simp, fun k => rfl⟩)
  · have hv : tb.isV v.who = true := TabS.isV_iff.2 ⟨h1, h2⟩
    have hlt : v.who.toNat < tb.latest.length := by omega
    have hlo := h.lo
    rcases h5 with ⟨h6, h7⟩ | ⟨h6, ⟨r, h7, ⟨h8, h9⟩ | ⟨h8, h9⟩⟩ | ⟨h7, ⟨o, h8, h9, h10⟩ | ⟨h8, h9⟩⟩⟩
    · rw [h7]; exact .inr (.inr ⟨by simp, by simp, fun k => rfl⟩)
    · rw [h9]; exact .inr (.inr ⟨by simp, by simp, fun k => rfl⟩)
    · rw [h9]
      refine .inr (.inl ⟨rfl, ⟨h1, h2⟩, TabS.counts_true.2 ⟨hv, h6⟩, fun k => ?_⟩)
      unfold effT updE
      by_cases e : k = v.who.toNat
      · rw [if_pos e, if_neg]
        rw [Bool.not_eq_true, TabS.counts_false]
        right
        show (tb.out.set v.who.toNat true).getD ((k : Int)).toNat false = true
        rw [Int.toNat_natCast, e]
        exact getD_set_self _ _ _ _ (by omega)
      · rw [if_neg e]
        have hc : ({ tb with out := tb.out.set v.who.toNat true } : TabS).counts (k : Int) = tb.counts (k : Int) := by
          show (tb.isV (k : Int) && !(tb.out.set v.who.toNat true).getD ((k : Int)).toNat false) = (tb.isV (k : Int) && !tb.out.getD ((k : Int)).toNat false)
          rw [Int.toNat_natCast, getD_set_ne _ _ _ _ _ (fun q => e q.symm)]
        show (if ({ tb with out := tb.out.set v.who.toNat true } : TabS).counts (k : Int) = true then _ else _) = _
        rw [hc]; rfl
    · rw [h10]; exact .inr (.inr ⟨by simp, by simp, fun k => rfl⟩)
    · rw [h9]
      refine .inl ⟨rfl, ⟨h1, h2⟩, TabS.counts_true.2 ⟨hv, h6⟩, fun k => ?_⟩
      have hi : ∀ x : Int, ({ tb with first := tb.first ++ [((v.who, v.slot / tb.slots), v.target)], latest := tb.latest.set v.who.toNat (some v) } : TabS).isV x = tb.isV x := fun x => by simp [TabS.isV]
      have hc : ({ tb with first := tb.first ++ [((v.who, v.slot / tb.slots), v.target)], latest := tb.latest.set v.who.toNat (some v) } : TabS).counts (k : Int) = tb.counts (k : Int) := by
        unfold TabS.counts; rw [hi]
      unfold effT updE
      rw [hc]
      by_cases e : k = v.who.toNat
      · have ek : (k : Int) = v.who := by omega
        rw [if_pos e, ek, if_pos (TabS.counts_true.2 ⟨hv, h6⟩)]
        unfold TabS.vote
        rw [hi, if_pos hv]
        show ((tb.latest.set v.who.toNat (some v)).getD v.who.toNat none).map _ = _
        rw [getD_set_self _ _ _ _ hlt]; rfl
      · rw [if_neg e]
        unfold TabS.vote
        rw [hi]
        show (if _ then (if _ then (tb.latest.set v.who.toNat (some v)).getD ((k : Int)).toNat none else none).map _ else _) = _
        rw [Int.toNat_natCast, getD_set_ne _ _ _ _ _ (fun q => e q.symm)]
        rfl
theorem forget_eff (tb : TabS) (s : Int) : effT (tb.forget s) = effT tb := by
  funext k
  unfold effT
  obtain ⟨h1, h2⟩ := TabS.forget_ends tb s (k : Int)
  rw [h1, h2]
theorem new_eff {n : Nat} {sl : Int} : effT (TabS.new n sl) = fun _ => none := by
  funext k
  unfold effT TabS.vote
  split
  · split
    · simp [TabS.new, List.getD_eq_getElem?_getD, List.getElem?_replicate]; split <;> rfl
    · rfl
  · rfl
theorem ownE_none (ns : List Node) : ownE vs (fun _ => none) ns = growO ns.length [] := by
  refine oA_ext (by rw [ownE_len, growO_len (Nat.zero_le _)]) fun j => ?_
  rw [grow_oA, oA_out (o := ([] : List Int)) (Nat.zero_le _)]
  rcases Nat.lt_or_ge j ns.length with hj | hj
  · rw [ownE_at hj]; exact sg_zero fun w _ => by unfold shareE; rw [if_neg (by simp)]
  · rw [oA_out (by rw [ownE_len]; exact hj)]
end
end Go.SL

set_option linter.unusedVariables false
set_option linter.unusedSimpArgs false
namespace Go.SL
structure BookS where
  t : TreeS
  tb : TabS
def bName (g : Root) (n : Int) : Root := if n = 0 then g else nameR n
/-- a vote is unknown: its block isn't there, or is of a later slot -/
def unkB (t : TreeS) (v : Vote) : Bool := match idxOf t.nodes v.target with | some i => decide (v.slot < slA t.nodes i) | none => true
def BookS.take (b : BookS) (v : Vote) : Int × TabS := if unkB b.t v = true then (6, b.tb) else b.tb.take v
def keepT (t : TreeS) (r : Root) : Int × TreeS := match idxOf t.nodes r with | some a => (0, prT t a) | none => (7, t)
def stepB (g : Root) (b : BookS) (a : VAct) : BookS :=
  if a.kind = 0 then { b with t := (b.t.add (bName g a.root) (bName g a.parent) a.slot).2 }
  else if a.kind = 1 then { b with tb := (b.take ⟨a.who, a.slot, bName g a.root⟩).2 }
  else if a.kind = 2 then { b with t := (keepT b.t (bName g a.root)).2 }
  else { b with tb := b.tb.forget a.slot }
def newB (g : Root) (nodes : Int) (n : Nat) (ep : Int) : BookS := ⟨TreeS.new g 0 nodes, TabS.new n ep⟩
def runB (b0 : BookS) (g : Root) (xs : List VAct) : BookS := xs.foldl (stepB g) b0
theorem runB_succ {b0 : BookS} {g : Root} {xs : List VAct} {i : Nat} (h : i < xs.length) : runB b0 g (xs.take (i + 1)) = stepB g (runB b0 g (xs.take i)) xs[i] := by
  unfold runB
  rw [List.take_succ_eq_append_getElem h, List.foldl_append]
  rfl
structure OKB (n : Nat) (b : BookS) : Prop where
  wf : b.t.WF
  tw : b.tb.WF
  ln : b.tb.latest.length = n
theorem OKB.take {n : Nat} {b : BookS} (h : OKB n b) (v : Vote) : OKB n { b with tb := (b.take v).2 } := by
  unfold BookS.take
  split
  · exact ⟨h.wf, h.tw, h.ln⟩
  · exact ⟨h.wf, h.tw.take v, by show (b.tb.take v).2.latest.length = n; rw [(TabS.take_slots b.tb v).2]; exact h.ln⟩
theorem keepT_wf {t : TreeS} (h : t.WF) (r : Root) : (keepT t r).2.WF := by
  unfold keepT
  split
  · rename_i a ha; exact prT_wf h (idxOf_lt ha)
  · exact h
theorem OKB.step {n : Nat} {b : BookS} {g : Root} (h : OKB n b) (a : VAct) : OKB n (stepB g b a) := by
  unfold stepB
  split
  · exact ⟨h.wf.add _ _ _, h.tw, h.ln⟩
  · split
    · exact h.take _
    · split
      · exact ⟨keepT_wf h.wf _, h.tw, h.ln⟩
      · exact ⟨h.wf, h.tw.forget _, by show (b.tb.forget a.slot).latest.length = n; rw [(TabS.forget_slots b.tb a.slot).2.1]; exact h.ln⟩
theorem OKB.run {n : Nat} {b0 : BookS} {g : Root} (h0 : OKB n b0) (xs : List VAct) : OKB n (runB b0 g xs) := by
  have key : ∀ m, m ≤ xs.length → OKB n (runB b0 g (xs.take m)) := by
    intro m
    induction m with
    | zero => intro _; exact h0
    | succ m ih => intro hm; rw [runB_succ (by omega)]; exact (ih (by omega)).step _
  have := key xs.length (Nat.le_refl _)
  rwa [List.take_length] at this
theorem OKB.new {g : Root} {nodes ep : Int} {n : Nat} (h1 : 1 ≤ nodes) (h2 : nodes ≤ 256) (h3 : n ≤ 64) (h4 : 1 ≤ ep) (h5 : ep ≤ 32) : OKB n (newB g nodes n ep) :=
  ⟨TreeS.WF.new h1 h2 (by decide) (by decide), TabS.WF.new h3 h4 h5, by simp [newB, TabS.new]⟩
/-- own weights, of a book -/
def ownB (vs : List Val) (b : BookS) : List Int := ownE vs (effT b.tb) b.t.nodes
/-- what a vote does to the weights: first the old one is taken away, then the new one is put -/
theorem take_puts {vs : List Val} (hs : StkOK vs) {t : TreeS} (ht : t.WF) {tb : TabS} (hb : tb.WF) (hn : tb.latest.length = vs.length) (v : Vote) {old : Root} {had : Int}
    (hold : old = ((tb.vote v.who).getD Vote.zero).target) (hhad : had = if tb.counts v.who = true ∧ (tb.vote v.who).isSome = true then stk vs v.who.toNat else 0) :
    ((tb.take v).1 = 0 → putO t (putO t (ownE vs (effT tb) t.nodes) old (-had)) v.target (stk vs v.who.toNat) = ownE vs (effT (tb.take v).2) t.nodes ∧ OwnOK (putO t (ownE vs (effT tb) t.nodes) old (-had)) ∧ (putO t (ownE vs (effT tb) t.nodes) old (-had)).length = t.nodes.length) ∧
    ((tb.take v).1 = 2 → putO t (ownE vs (effT tb) t.nodes) old (-had) = ownE vs (effT (tb.take v).2) t.nodes) ∧
    ((tb.take v).1 ≠ 0 → (tb.take v).1 ≠ 2 → ownE vs (effT (tb.take v).2) t.nodes = ownE vs (effT tb) t.nodes) := by
  have less : 0 ≤ v.who ∧ v.who < tb.latest.length → tb.counts v.who = true → putO t (ownE vs (effT tb) t.nodes) old (-had) = ownE vs (updE (effT tb) v.who.toNat none) t.nodes := by
    intro h1 h2
    have ew : ((v.who.toNat : Nat) : Int) = v.who := by omega
    have he : effT tb v.who.toNat = (tb.vote v.who).map (·.target) := by unfold effT; rw [ew, if_pos h2]
    cases hv : tb.vote v.who with
    | none =>
      rw [hv] at he hhad
      rw [hhad, if_neg (by simp), updE_self (show effT tb v.who.toNat = none by rw [he]; rfl)]
      exact put_zero hs ht
    | some o =>
      rw [hv] at he hhad hold
      rw [hhad, if_pos ⟨h2, rfl⟩, hold]
      exact put_less hs ht (by omega) he
  rcases take_eff v hb with ⟨h1, h2, h3, h4⟩ | ⟨h1, h2, h3, h4⟩ | ⟨h1, h2, h3⟩
  · refine ⟨fun _ => ?_, fun q => (by rw [h1] at q; cases q), fun q => absurd h1 q⟩
    rw [less h2 h3]
    refine ⟨?_, ownE_ok hs ht, ownE_len _ _ _⟩
    rw [put_more hs ht (by omega) (updE_at none), updE_updE]
    exact (ownE_congr (fun w _ => h4 w) _).symm
  · refine ⟨fun q => (by rw [h1] at q; cases q), fun _ => ?_, fun _ q => absurd h1 q⟩
    rw [less h2 h3]
    exact (ownE_congr (fun w _ => h4 w) _).symm
  · exact ⟨fun q => absurd q h1, fun q => absurd q h2, fun _ _ => ownE_congr (fun w _ => h3 w) _⟩
end Go.SL

set_option linter.unusedVariables false
set_option linter.unusedSimpArgs false
namespace Go.SL
def cntE (vs : List Val) (p : Nat → Bool) (k : Nat) : Int := sg (fun w => if p w = true then stk vs w else 0) k
/-- votes, of a book whose blocks stay -/
def runV (t : TreeS) (tb : TabS) (xs : List Vote) : TabS := xs.foldl (fun tb v => (BookS.take ⟨t, tb⟩ v).2) tb
end Go.SL

set_option linter.unusedVariables false
set_option linter.unusedSimpArgs false
namespace Go.SL
open Go.Proofs

def stakeV (vs : List Val) (tb : TabS) (who : Int) (r : Root) : Int := match tb.vote who with | some v => if tb.counts who = true ∧ v.target = r then stk vs who.toNat else 0 | none => 0
theorem stakeV_no1 {vs : List Val} {tb : TabS} {who : Int} {r : Root} (h : (tb.vote who).isSome = false) : stakeV vs tb who r = 0 := by
 unfold stakeV; cases hv : tb.vote who with
 | none => rfl
 | some v => rw [hv] at h; cases h
theorem stakeV_no2 {vs : List Val} {tb : TabS} {who : Int} {r : Root} (h : tb.counts who = false) : stakeV vs tb who r = 0 := by
 unfold stakeV; cases hv : tb.vote who with
 | none => rfl
 | some v => dsimp only; rw [if_neg (fun q => by rw [h] at q; cases q.1)]
theorem stakeV_no3 {vs : List Val} {tb : TabS} {who : Int} {r : Root} (h : ((tb.vote who).getD Vote.zero).target ≠ r) : stakeV vs tb who r = 0 := by
 unfold stakeV; cases hv : tb.vote who with
 | none => rfl
 | some v => dsimp only; rw [hv] at h; rw [if_neg (fun q => h q.2)]
theorem stakeV_yes {vs : List Val} {tb : TabS} {who : Int} {r : Root} (h1 : (tb.vote who).isSome = true) (h2 : tb.counts who = true) (h3 : ((tb.vote who).getD Vote.zero).target = r) : stakeV vs tb who r = stk vs who.toNat := by
 unfold stakeV; cases hv : tb.vote who with
 | none => rw [hv] at h1; cases h1
 | some v => dsimp only; rw [hv] at h3; rw [if_pos ⟨h2, h3⟩]
theorem stakeV_share {vs : List Val} {tb : TabS} {w : Nat} {r : Root} : stakeV vs tb (w : Int) r = shareE vs (effT tb) r w := by
 unfold stakeV shareE effT
 cases hv : tb.vote (w : Int) with
 | none => dsimp only; split <;> simp
 | some v =>
  dsimp only
  by_cases hc : tb.counts (w : Int) = true
  ·have e : Option.map (fun x : Vote => x.target) (some v) = some v.target := rfl
   rw [if_pos hc, e]
   by_cases hr : v.target = r
   ·rw [if_pos ⟨hc, hr⟩, if_pos (by rw [hr]), Int.toNat_natCast]
   ·rw [if_neg (fun q => hr q.2), if_neg (fun q => hr (Option.some.inj q))]
  ·rw [if_neg (fun q => hc q.1), if_neg hc, if_neg (by simp)]
theorem counts_rg {tb : TabS} {who : Int} (h : tb.counts who = true) : 0 ≤ who ∧ who < tb.latest.length := TabS.isV_iff.1 (TabS.counts_true.1 h).1
theorem add_err {t : TreeS} {r p : Root} {slot : Int} (h : (t.add r p slot).1 ≠ 0) : (t.add r p slot).2 = t := by
 unfold TreeS.add at h ⊢
 repeat' split
 all_goals first | rfl | skip
 all_goals simp_all

set_option maxRecDepth 100000 in
set_option maxHeartbeats 1000000 in
theorem stake_calls {w0 w : World} {l : List HProp} (pb pt pw pv : Nat) (ao : Option Addr) (c : Nat) (xs : List Val) (n1 n2 n3 n4 n5 n6 n7 n8 n9 n10 n11 : Int) (tb : TabS) (who : Int) (r : Root) (hs : Sat w0 w ((Blk pb (.cells #[.slice ao xs.length c, .int .i64 n1, .int .i64 n2, .int .i64 n3, .int .i64 n4, .int .i64 n5, .int .i64 n6, .int .i64 n7, .int .i64 n8, .int .i64 n9, .int .i64 n10, .int .i64 n11, .pointer (some ⟨pt, 0, none⟩), .pointer (some ⟨pw, 0, none⟩), .pointer (some ⟨pv, 0, none⟩)] 131 (0, 0))) :: (TabObj pv tb) :: l)) (hn : tb.latest.length = xs.length) (hr : Rds w0 l encVal ao xs) :
  Calls Try.prog 73 #[.pointer (some ⟨pb, 0, none⟩), .int .i64 who, .agg (rootC r).toArray] w (Ret w0 fun v l' => v = .int .i64 (stakeV xs tb who r) ∧ l' = Blk pb (.cells #[.slice ao xs.length c, .int .i64 n1, .int .i64 n2, .int .i64 n3, .int .i64 n4, .int .i64 n5, .int .i64 n6, .int .i64 n7, .int .i64 n8, .int .i64 n9, .int .i64 n10, .int .i64 n11, .pointer (some ⟨pt, 0, none⟩), .pointer (some ⟨pw, 0, none⟩), .pointer (some ⟨pv, 0, none⟩)] 131 (0, 0)) :: TabObj pv tb :: l) := by
 refine calls_enter Try.func73 rfl rfl rfl hs ?_
 refine Z18 ?_; intro bx1
 refine Zb ?_
 refine Z20 ?_
 refine oq (op_field fld_131_3 rfl) ?_
 refine oq (op_ld 1 sc_79 rfl rfl rfl) ?_
 refine Z4 ?_
 refine Zs ?_
 refine oi (os_call cb_41 rfl (fun w s => TVote_calls _ _ _  s )) ?_; rintro _ _ ⟨rfl, rfl⟩
 refine Z3z ?_
 refine Zad ?_; intro bx2
 refine Z7m ?_
 refine Z3a ?_
 refine Z2x ?_
 refine Z5 ?_
 refine ol_split 20 rfl (fun hb1 => ?_) (fun hb1 => ?_)
 ·have hp1 := hb1
  (try simp only [bn] at hp1)
  have hs1 : (tb.vote who).isSome = false := by simpa using hb1
  refine Z3w ?_
  refine Z56 ?_
  refine Z27 ?_
  refine Z60 ?_
  refine Z4j ?_
  refine Z6o ?_
  refine Z42 ?_
  exact px_ret1 rfl (v := .int _ _) rfl (fun _ s => (((s.del 2).del 0).pull 1)) ⟨congrArg (Value.int .i64) ((stakeV_no1 hs1).symm), rfl⟩
 have hp1 := hb1
 (try simp only [bn] at hp1)
 have hs1 : (tb.vote who).isSome = true := by simpa using hb1
 refine Z5c ?_
 refine Z5d ?_
 refine ol_q (wn_some rfl rfl rfl hb1 rfl) (op_field fld_131_3 rfl) rfl ?_
 refine ol_q (wn_some rfl rfl rfl hb1 rfl) (op_ld 3 sc_79 rfl rfl rfl) rfl ?_
 refine Z2u ?_
 refine Z8 ?_
 refine ol_i (wn_some rfl rfl rfl hb1 rfl) (os_call cb_40 rfl (fun w s => Counts_calls _ _ _  s )) rfl ?_; rintro _ _ ⟨rfl, rfl⟩
 refine ol_q (wn_some rfl rfl rfl hb1 rfl) (op_not rfl) rfl ?_
 refine Z28 ?_
 refine Z5 ?_
 refine ol_split 29 rfl (fun hb2 => ?_) (fun hb2 => ?_)
 ·have hp2 := hb2
  (try simp only [bn] at hp2)
  have hs2 : tb.counts who = false := by simpa using hb2
  refine Z1m ?_
  refine Z1m ?_
  refine Z3c ?_
  refine Z42 ?_
  exact px_ret1 rfl (v := .int _ _) rfl (fun _ s => (((s.del 2).del 1).pull 1)) ⟨congrArg (Value.int .i64) ((stakeV_no2 hs2).symm), rfl⟩
 have hp2 := hb2
 (try simp only [bn] at hp2)
 have hs2 : tb.counts who = true := by simpa using hb2
 have hrg := counts_rg hs2
 refine ol_q (wn_some rfl rfl rfl hb2 rfl) (op_field fld_84_2 rfl) rfl ?_
 refine ol_q (wn_some rfl rfl rfl hb2 rfl) (op_lda (L := rootC _) 1 ag_24 rfl rfl (voteC_af2 _) (by simp [voteC_len])) rfl ?_
 refine ol_q (wn_some rfl rfl rfl hb2 rfl) (op_lda (L := rootC _) 2 ag_24 rfl rfl (rootC_take' _) (by simp [rootC_len])) rfl ?_
 refine ol_q (wn_some rfl rfl rfl hb2 rfl) (op_neroot _ _ rB_24 rfl rfl) rfl ?_
 refine Z32 ?_
 refine Z1 ?_
 refine cd_cond rfl (fun hb3 => ?_) (fun hb3 => ?_)
 ·have hp3 := hb3
  (try simp only [bn] at hp3)
  have hs3 : ((tb.vote who).getD Vote.zero).target ≠ r := by simpa using hb3
  refine Z24 ?_
  exact px_ret1 rfl (v := .int _ _) rfl (fun _ s => (((s.del 2).del 1).pull 1)) ⟨congrArg (Value.int .i64) ((stakeV_no3 hs3).symm), rfl⟩
 have hp3 := hb3
 (try simp only [bn] at hp3)
 have hs3 : ((tb.vote who).getD Vote.zero).target = r := by simpa using hb3
 refine Z9 ?_
 refine Z20 ?_
 refine oq (op_field fld_131_0 rfl) ?_
 refine Z4d ?_
 refine oq (op_ld 3 sc_63 rfl rfl rfl) ?_
 refine Z4 ?_
 refine oq (op_index who.toNat sB_63 rfl rfl (by omega) ((((hr.cons _).cons _).cons _).cons _) rfl (by omega)) ?_
 refine oq (op_fielde fld_78_0 rfl ((((hr.cons _).cons _).cons _).cons _) (by omega)) ?_
 refine oq (op_ldf 0 sc_3 ((((hr.cons _).cons _).cons _).cons _) rfl (by omega) rfl (valC_l0 _)) ?_
 refine Zt ?_
 exact px_ret1 rfl (v := .int _ _) rfl (fun _ s => (((s.del 2).del 1).pull 1)) ⟨congrArg (Value.int .i64) (((stakeV_yes hs1 hs2 hs3).trans (stk_get (by omega))).symm), rfl⟩

set_option maxRecDepth 100000 in
set_option maxHeartbeats 1000000 in
theorem all_calls {w0 w : World} {l : List HProp} (pb pt pw pv : Nat) (ao : Option Addr) (c : Nat) (xs : List Val) (n1 n2 n3 n4 n5 n6 n7 n8 n9 n10 n11 : Int) (tb : TabS) (r : Root) (hs : Sat w0 w ((Blk pb (.cells #[.slice ao xs.length c, .int .i64 n1, .int .i64 n2, .int .i64 n3, .int .i64 n4, .int .i64 n5, .int .i64 n6, .int .i64 n7, .int .i64 n8, .int .i64 n9, .int .i64 n10, .int .i64 n11, .pointer (some ⟨pt, 0, none⟩), .pointer (some ⟨pw, 0, none⟩), .pointer (some ⟨pv, 0, none⟩)] 131 (0, 0))) :: (TabObj pv tb) :: l)) (hn : tb.latest.length = xs.length) (hsk : StkOK xs) (hr : Rds w0 l encVal ao xs) :
  Calls Try.prog 88 #[.pointer (some ⟨pb, 0, none⟩), .agg (rootC r).toArray] w (Ret w0 fun v l' => v = .int .i64 (allE xs (effT tb) r) ∧ l' = Blk pb (.cells #[.slice ao xs.length c, .int .i64 n1, .int .i64 n2, .int .i64 n3, .int .i64 n4, .int .i64 n5, .int .i64 n6, .int .i64 n7, .int .i64 n8, .int .i64 n9, .int .i64 n10, .int .i64 n11, .pointer (some ⟨pt, 0, none⟩), .pointer (some ⟨pw, 0, none⟩), .pointer (some ⟨pv, 0, none⟩)] 131 (0, 0)) :: TabObj pv tb :: l) := by
 have htw := hs.drop.tabWF
 have hn1 := htw.n1
 refine calls_enter Try.func88 rfl rfl rfl hs ?_
 refine Z18 ?_; intro bx1
 refine Zb ?_
 refine Z0 ?_
 refine Z5n ?_
 refine Zr ?_
 refine oq (op_field fld_131_0 rfl) ?_
 refine Z4d ?_
 refine oq (op_ld 1 sc_63 rfl rfl rfl) ?_
 refine Z4v ?_
 refine Z1i ?_
 refine cd_loop2 (α := Nat) [(5, 6), (13, 22)] (fun x => [(5, .int .i64 (sg (shareE xs (effT tb) r) x)), (13, .int .i64 (x : Int))]) (fun _ => _) (fun x => x ≤ xs.length) (fun x => xs.length - x) 0 (Nat.zero_le _) ⟨rfl, rfl, trivial⟩ (fun _ s => s) ?_
 rintro j hj f; (try dsimp only at hj ⊢)
 refine Zv ?_
 refine cd_cond rfl (fun hb1 => ?_) (fun hb1 => ?_)
 ·have hp1 := hb1
  (try simp only [bn] at hp1)
  have hj1 : j < xs.length := by omega
  have h1 := sg_nonneg (f := shareE xs (effT tb) r) (m := j) (fun q _ => share_nn hsk)
  have h2 := sg_mono (f := shareE xs (effT tb) r) (show j + 1 ≤ xs.length by omega) (fun q _ => share_nn hsk)
  have h3 := all_le (E := effT tb) (r := r) hsk
  have h4 := hsk.tt
  have h5 := share_nn (E := effT tb) (r := r) (w := j) hsk
  have h6 := sg_succ (f := shareE xs (effT tb) r) (m := j)
  unfold allE at h3
  refine Z2m ?_
  refine Zb ?_
  refine Z1d ?_
  refine Z4 ?_
  refine Z1k ?_
  refine Z4 ?_
  refine Z2n ?_
  refine Zs ?_
  refine Zs ?_
  refine oi (os_call cb_73 rfl (fun w s => stake_calls _ _ _ _ _ _ _ _ _ _ _ _ _ _ _ _ _ _ _ _ _  s (by assumption) (hr.cons _))) ?_; rintro _ _ ⟨rfl, rfl⟩; rw [stakeV_share]
  refine Zbx ?_
  refine Z5z ?_
  refine px_loop2 (j + 1) (by omega) (by (try dsimp only); omega) ⟨congrArg (Value.int .i64) sg_succ.symm, congrArg (Value.int .i64) (by simp), trivial⟩ ?_ (fun _ s => (((s.pull 1).pull 1).pull 2))
  exact Z2
 have hp1 := hb1
 (try simp only [bn] at hp1)
 have hje : j = xs.length := by omega
 refine Z1g ?_
 refine Z3h ?_
 exact px_ret1 rfl (v := .int _ _) rfl (fun _ s => (s.del 0)) ⟨by rw [hje]; rfl, rfl⟩

set_option maxRecDepth 100000 in
set_option maxHeartbeats 1000000 in
theorem put_calls {w0 w : World} {l : List HProp} (pb pt pw pv : Nat) (ao : Option Addr) (c : Nat) (xs : List Val) (n1 n2 n3 n4 n5 n6 n7 n8 n9 n10 n11 : Int) (t : TreeS) (o : List Int) (r : Root) (k : Int) (hs : Sat w0 w ((Blk pb (.cells #[.slice ao xs.length c, .int .i64 n1, .int .i64 n2, .int .i64 n3, .int .i64 n4, .int .i64 n5, .int .i64 n6, .int .i64 n7, .int .i64 n8, .int .i64 n9, .int .i64 n10, .int .i64 n11, .pointer (some ⟨pt, 0, none⟩), .pointer (some ⟨pw, 0, none⟩), .pointer (some ⟨pv, 0, none⟩)] 131 (0, 0))) :: (TreeObj pt t) :: (WObj pw pt t.nodes o) :: l)) (h1 : o.length ≤ t.nodes.length) (hok : OwnOK o) :
  Calls Try.prog 75 #[.pointer (some ⟨pb, 0, none⟩), .agg (rootC r).toArray, .int .i64 k] w (Ret w0 fun v l' => v = .tuple #[] ∧ l' = Blk pb (.cells #[.slice ao xs.length c, .int .i64 n1, .int .i64 n2, .int .i64 n3, .int .i64 n4, .int .i64 n5, .int .i64 n6, .int .i64 n7, .int .i64 n8, .int .i64 n9, .int .i64 n10, .int .i64 n11, .pointer (some ⟨pt, 0, none⟩), .pointer (some ⟨pw, 0, none⟩), .pointer (some ⟨pv, 0, none⟩)] 131 (0, 0)) :: TreeObj pt t :: WObj pw pt t.nodes (putO t o r k) :: l) := by
 have hw := hs.drop.treeWF
 refine calls_enter Try.func75 rfl rfl rfl hs ?_
 refine Z18 ?_; intro bx1
 refine Z4m ?_
 refine Z9i ?_
 refine Z6 ?_
 refine Zam ?_
 refine Z7c ?_
 refine Z10 ?_
 refine rg_i (wn_none rfl) (os_back (os_pull2 (os_call cb_31 rfl (fun w s => Place_calls _ _ _  s ))) (fun _ s => ((((s.pull 3).pull 1).pull 3).pull 3))) rfl rfl ?_; rintro _ _ ⟨rfl, rfl⟩; refine ⟨[], rfl, ?_⟩
 refine rg_q (wn_none rfl) (op_ge rfl rfl) rfl rfl ?_
 refine Z19 ?_
 refine cd_cond rfl (fun hb1 => ?_) (fun hb1 => ?_)
 ·have hp1 := hb1
  (try simp only [bn] at hp1)
  have hpo : (applyO t.nodes o [⟨r, k⟩]).2 = putO t o r k := by unfold putO; rw [if_neg (by omega)]
  refine cd_pull2 ?_
  refine cd_pull3 ?_
  refine cd_draw (M := [_, _]) mx [7, 8] (by kernel_rfl) ?_
  refine Z6 ?_
  refine Zan ?_
  refine Zao ?_
  refine Z10 ?_
  refine Zg ?_
  refine rg_q (wn_none rfl) (op_build (L := deltaC _) (vs := [(0, .agg (rootC _).toArray), (1, .int _ _)]) bB_102 rfl ⟨⟨by simp [Value.cells, rootC_len], by rw [deltaC_len]; rfl⟩, ⟨rfl, by rw [deltaC_len]; rfl⟩, trivial⟩ ((deltaC_b0 _ _ _).trans ((deltaC_b1 _ _ _).trans rfl))) rfl rfl ?_
  refine rg_i (wn_none rfl) (os_bslice (E := encDelta) [_] (ys := [_]) sB_97 zv_102 rfl rfl rfl rfl (by decide)) rfl rfl ?_; rintro _ _ ⟨ao1, rfl, rfl⟩; refine ⟨[_, _, _], rfl, ?_⟩
  refine rg_i (wn_none rfl) (os_pull1 (os_pull2 (os_call cb_52 rfl (fun w s => Apply_calls _ _ _ _ _ _ _  s h1 hok (rds_row 0 rfl rfl) (by show 1 ≤ 1000; decide))))) rfl rfl ?_; rintro _ _ ⟨rfl, rfl⟩; rw [hpo]; refine ⟨[_, _, _], rfl, ?_⟩
  refine rg_nil3 ?_
  exact px_end0 rfl (fun _ s => (((((s.del 3).del 2).pull 1).pull 1).pull 2)) ⟨rfl, rfl⟩
 have hp1 := hb1
 (try simp only [bn] at hp1)
 have hpo : putO t o r k = o := by unfold putO; rw [if_pos (by omega)]
 rw [hpo]
 refine cd_skip ?_
 exact px_end0 rfl (fun _ s => (s.del 0)) ⟨rfl, rfl⟩
end Go.SL

