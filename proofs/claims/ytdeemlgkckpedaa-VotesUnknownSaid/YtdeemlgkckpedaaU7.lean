import Derived.Test.YtdeemlgkckpedaaU6
set_option linter.unusedVariables false
set_option linter.unusedSimpArgs false
namespace Go.SL
open Go.Proofs

set_option maxRecDepth 100000 in
set_option maxHeartbeats 1000000 in
theorem add_calls {w0 w : World} {l : List HProp} (p : Nat) (w1 : W8) (ro : Option Addr) (rc : Nat) (r : List UInt8) (n : Nat) (t : List UInt8) (hs : Sat w0 w ((Blk p (.cells (stC ⟨w1, ⟨ro, (r).length, rc⟩, n⟩).toArray 179 (0, 0))) :: (Row 5 encU8 (.slice ro (r).length rc) (r)) :: l)) (hn : n + t.length < 1000000000) (hr : r.length < 64) :
  Calls Try.prog 110 #[.pointer (some ⟨p, 0, none⟩), .string (B t)] w (Ret w0 fun v l' => ∃ ro rc, v = .tuple #[] ∧ l' = Blk p (.cells (stC ⟨runs w1 (r ++ t), ⟨ro, (left (r ++ t)).length, rc⟩, n + t.length⟩).toArray 179 (0, 0)) :: Row 5 encU8 (.slice ro (left (r ++ t)).length rc) (left (r ++ t)) :: l) := by
 have hrt : (r ++ t).length = r.length + t.length := List.length_append
 refine calls_enter Try.func110 rfl rfl rfl hs ?_
 refine Z1v ?_
 refine oq (op_field fld_179_2 rfl) ?_
 refine oq (op_ld 0 sc_142 rfl rfl (show (stC _).toArray[9]? = some (.int .u64 (n : Int)) from stC_a9 _)) ?_
 refine Z4n ?_
 refine oq (op_len_string Try.underlying9 rfl) ?_
 refine oq (op_conv64 Try.underlying142 (by rw [Try.underlying3]; rfl) rfl (by omega)) ?_
 refine oq (op_addn rfl rfl (by omega)) ?_
 refine Zr ?_
 refine oq (op_field fld_179_2 rfl) ?_
 refine oN (os_store (v := .int _ _) sc_142 rfl rfl rfl (by simp [stC_len]) (Free.zero _) (stC_s9 _ _)) ?_; rintro _ _ ⟨rfl, rfl⟩
 refine Z1 ?_
 refine Z3i ?_
 refine Z3d ?_
 refine oq (op_ld 0 sc_162 rfl rfl (show (stC _).toArray[8]? = some (.slice ro r.length rc) from stC_a8 _)) ?_
 refine Z4n ?_
 refine Z9 ?_
 refine oi (os_appendS rfl sB_162 Try.underlying9 zv_5 rfl rfl rfl (by omega) (by unfold maxLen; omega)) ?_; rintro _ _ ⟨ao1, ac1, rfl, rfl⟩
 refine Z3d ?_
 refine Z9 ?_
 refine Z92 ?_
 refine Z48 ?_
 refine cd_loop2 (α := W8 × List UInt8 × Option Addr × Nat) [(23, 43)] (fun x => []) (fun x => Blk p (.cells (stC ⟨x.1, ⟨x.2.2.1, (x.2.1).length, x.2.2.2⟩, n + t.length⟩).toArray 179 (0, 0)) :: Row 5 encU8 (.slice x.2.2.1 (x.2.1).length x.2.2.2) (x.2.1) :: l) (fun x => runs x.1 x.2.1 = runs w1 (r ++ t) ∧ left x.2.1 = left (r ++ t) ∧ x.2.1.length ≤ (r ++ t).length) (fun x => x.2.1.length) (w1, r ++ t, ao1, ac1) ⟨rfl, rfl, Nat.le_refl _⟩ trivial (fun _ s => s) ?_
 rintro ⟨u, b, bo, bc⟩ ⟨h1, h2, h3⟩ f; dsimp only at h1 h2 h3 ⊢
 refine Z1q ?_
 refine Z3d ?_
 refine Z7o ?_
 refine oq (op_len_slice Try.underlying162 rfl) ?_
 refine Z3s ?_
 refine cd_cond rfl (fun hb1 => ?_) (fun hb1 => ?_)
 ·have hp1 := hb1
  (try simp only [bn] at hp1)
  have hb64 : 64 ≤ b.length := by omega
  refine Za ?_
  refine cd_block ?_
  refine Z3i ?_
  refine Z3d ?_
  refine Z7o ?_
  refine Z9 ?_
  refine oi (os_slicerow_lend 64 sB_162 rfl rfl rfl rfl (by omega)) ?_; rintro _ _ ⟨rfl, rfl⟩
  refine Z9 ?_
  refine Zc0 ?_
  refine Z1 ?_
  refine Z6a ?_
  refine Z1p ?_
  refine Z3d ?_
  refine Z7o ?_
  refine Z9 ?_
  refine oi (os_slicerow_from 64 sB_162 rfl rfl rfl rfl (by omega)) ?_; rintro _ _ ⟨bo2, bc2, rfl, rfl⟩
  refine Z3d ?_
  refine Z9 ?_
  refine Z92 ?_
  refine ol_nil ?_
  refine px_blockN ?_
  refine px_loop2 (blk8 u (b.take 64), b.drop 64, bo2, bc2) ⟨by rw [← h1, runs_ge (w := u) hb64], by rw [← h2, left_ge hb64], by dsimp only; rw [List.length_drop]; omega⟩ (by (try dsimp only); rw [List.length_drop]; omega) trivial ?_ (fun _ s => s)
  exact Z2
 have hp1 := hb1
 (try simp only [bn] at hp1)
 have hb64 : b.length < 64 := by omega
 refine Z6m ?_
 have e1 : runs w1 (r ++ t) = u := by rw [← h1, runs_lt hb64]
 have e2 : left (r ++ t) = b := by rw [← h2, left_lt hb64]
 exact px_end0 rfl (fun _ s => s) ⟨bo, bc, rfl, by rw [e1, e2]⟩

set_option maxRecDepth 100000 in
set_option maxHeartbeats 1000000 in
theorem end_calls {w0 w : World} {l : List HProp} (p : Nat) (w1 : W8) (ro : Option Addr) (rc : Nat) (r : List UInt8) (n : Nat) (hs : Sat w0 w ((Blk p (.cells (stC ⟨w1, ⟨ro, (r).length, rc⟩, n⟩).toArray 179 (0, 0))) :: (Row 5 encU8 (.slice ro (r).length rc) (r)) :: l)) (hr : r.length < 64) (hn : n < 1000000000) :
  Calls Try.prog 111 #[.pointer (some ⟨p, 0, none⟩)] w (Ret w0 fun v l' => v = .agg (rootC (outR (runs w1 (padM r n)))).toArray ∧ l' = l) := by
 have hz : zpad r.length = (119 - r.length) % 64 := rfl
 have hpm : (padM r n).length = r.length + 1 + zpad r.length + 8 := by unfold padM; simp [be64_len]; omega
 refine calls_enter Try.func111 rfl rfl rfl hs ?_
 refine Z0 ?_
 refine Z1w ?_; intro bx1
 refine Z1 ?_
 refine Z1v ?_
 refine oq (op_field fld_179_2 rfl) ?_
 refine oq (op_ld 1 sc_142 rfl rfl (show (stC _).toArray[9]? = some (.int .u64 (n : Int)) from stC_a9 _)) ?_
 refine oq (op_muln (C := 8) rfl rfl (by omega)) ?_
 refine Z8 ?_
 refine Z3i ?_
 refine Z3d ?_
 refine oq (op_ld 1 sc_162 rfl rfl (show (stC _).toArray[8]? = some (.slice ro r.length rc) from stC_a8 _)) ?_
 refine oi (os_bslice (E := encU8) [_] (ys := [128]) sB_162 zv_5 rfl rfl rfl rfl (by decide)) ?_; rintro _ _ ⟨ao1, rfl, rfl⟩
 refine Zl ?_
 refine oi (os_append (E := encU8) rfl sB_162 zv_5 rfl rfl rfl (fun w s => (rds_row 1 rfl rfl) [] w s) rfl (by simp; omega) (by unfold maxLen; simp; omega)) ?_; rintro _ _ ⟨ao2, ac2, rfl, rfl⟩
 refine Z3d ?_
 refine Zl ?_
 refine Z92 ?_
 refine Z39 ?_
 refine cd_block ?_
 refine cd_loop2 (α := Nat × Option Addr × Nat) [(22, 37)] (fun x => []) (fun x => Blk p (.cells (stC ⟨w1, ⟨x.2.1, (r ++ [128] ++ List.replicate x.1 0).length, x.2.2⟩, n⟩).toArray 179 (0, 0)) :: Row 5 encU8 (.slice x.2.1 (r ++ [128] ++ List.replicate x.1 0).length x.2.2) (r ++ [128] ++ List.replicate x.1 0) :: Blk bx1 (.cells (rootC Root.zero).toArray 24 (0, 0)) :: l) (fun x => x.1 ≤ zpad r.length) (fun x => zpad r.length - x.1) (0, ao2, ac2) (Nat.zero_le _) trivial (fun _ s => by rw [show r ++ [128] ++ List.replicate 0 0 = r ++ [128] by simp]; exact (s.del 2)) ?_
 rintro ⟨k, bo, bc⟩ hk f; dsimp only at hk ⊢; have hlk : (r ++ [128] ++ List.replicate k 0).length = r.length + 1 + k := by simp; omega
 refine Z1q ?_
 refine Z3d ?_
 refine oq (op_ld 0 sc_162 rfl rfl (show (stC _).toArray[8]? = some (.slice bo (r ++ [128] ++ List.replicate k 0).length bc) from stC_a8 _)) ?_
 refine oq (op_len_slice Try.underlying162 rfl) ?_
 refine oq (op_rem rfl rfl (by omega) (by omega)) ?_
 refine Z5c ?_
 refine cd_cond rfl (fun hb1 => ?_) (fun hb1 => ?_)
 ·have hp1 := hb1
  (try simp only [bn] at hp1)
  have hkz : k < zpad r.length := by omega
  refine Za ?_
  refine cd_block ?_
  refine Z6a ?_
  refine Z1p ?_
  refine Z3d ?_
  refine oq (op_ld 0 sc_162 rfl rfl (show (stC _).toArray[8]? = some (.slice bo (r ++ [128] ++ List.replicate k 0).length bc) from stC_a8 _)) ?_
  refine oi (os_bslice (E := encU8) [_] (ys := [0]) sB_162 zv_5 rfl rfl rfl rfl (by decide)) ?_; rintro _ _ ⟨ao3, rfl, rfl⟩
  refine Zs ?_
  refine oi (os_append (E := encU8) rfl sB_162 zv_5 rfl rfl rfl (fun w s => (rds_row 1 rfl rfl) [] w s) rfl (by rw [hlk]; simp; omega) (by unfold maxLen; rw [hlk]; simp; omega)) ?_; rintro _ _ ⟨ao4, ac4, rfl, rfl⟩
  refine Z3d ?_
  refine Zs ?_
  refine Z92 ?_
  refine ol_nil ?_
  refine px_blockN ?_
  have e1 : r ++ [128] ++ List.replicate (k + 1) 0 = r ++ [128] ++ List.replicate k 0 ++ [0] := by rw [List.replicate_succ']; simp
  refine px_loop2 (k + 1, ao4, ac4) (by dsimp only; omega) (by (try dsimp only); omega) trivial ?_ (fun _ s => (by (try dsimp only); rw [e1]; exact (s.del 2)))
  exact Z2
 have hp1 := hb1
 (try simp only [bn] at hp1)
 obtain rfl : k = zpad r.length := by omega
 refine Z1e ?_
 refine Zf ?_
 refine Z48 ?_
 refine cd_loop2 (α := Nat × Option Addr × Nat) [(4, 4), (38, 56)] (fun x => [(38, .int .i64 (x.1 : Int))]) (fun x => Blk p (.cells (stC ⟨w1, ⟨x.2.1, (r ++ [128] ++ List.replicate (zpad r.length) 0 ++ be64 (n * 8) x.1).length, x.2.2⟩, n⟩).toArray 179 (0, 0)) :: Row 5 encU8 (.slice x.2.1 (r ++ [128] ++ List.replicate (zpad r.length) 0 ++ be64 (n * 8) x.1).length x.2.2) (r ++ [128] ++ List.replicate (zpad r.length) 0 ++ be64 (n * 8) x.1) :: Blk bx1 (.cells (rootC Root.zero).toArray 24 (0, 0)) :: l) (fun x => x.1 ≤ 8) (fun x => 8 - x.1) (0, bo, bc) (Nat.zero_le _) ⟨rfl, trivial⟩ (fun _ s => by rw [show r ++ [128] ++ List.replicate (zpad r.length) 0 ++ be64 (n * 8) 0 = r ++ [128] ++ List.replicate (zpad r.length) 0 by simp [be64]]; exact s) ?_
 rintro ⟨i, co, cc⟩ hi f; dsimp only at hi ⊢; have hl8 : (r ++ [128] ++ List.replicate (zpad r.length) 0 ++ be64 (n * 8) i).length = r.length + 1 + zpad r.length + i := by simp [be64_len]; omega
 refine Zx ?_
 refine cd_cond rfl (fun hb2 => ?_) (fun hb2 => ?_)
 ·have hp2 := hb2
  (try simp only [bn] at hp2)
  have hi8 : i < 8 := by omega
  refine Z2t ?_
  refine Z8 ?_
  refine cd_pull1 ?_
  refine cd_pull1 ?_
  refine cd_drawe (M := [_, _]) mx [4, 11, 12, 15] ?_
  refine Z22 ?_
  refine e_q 1 rfl (wn_none rfl) (op_move (v := .pointer _) rfl) ?_
  refine e_q 2 rfl (wn_none rfl) (op_nilck rfl) ?_
  refine e_q 3 rfl (wn_none rfl) (op_field fld_179_1 rfl) ?_
  refine Z8x ?_
  refine e_q 6 rfl (wn_none rfl) (op_move (v := .int _ _) rfl) ?_
  refine e_q 7 rfl (wn_none rfl) (op_mul rfl rfl (by omega) (by omega)) ?_
  refine e_q 8 rfl (wn_none rfl) (op_sub rfl rfl (by omega) (by omega)) ?_
  refine e_q 9 rfl (wn_none rfl) (op_shr_nat (m := 56 - 8 * i) rfl (congrArg (Value.int .i64) (by omega)) (by show 56 - 8 * i ≤ 64; omega)) ?_
  refine e_q 10 rfl (wn_none rfl) (op_conv8 Try.underlying5 (by rw [Try.underlying142]; rfl) rfl) ?_
  refine et_2 (i1 := 4) (i2 := 11) (by kernel_rfl) ?_ ?_
  ·
   refine ei_i rfl rfl (wn_none rfl) (os_q (op_ld 0 sc_162 rfl rfl (show (stC _).toArray[8]? = some (.slice co (r ++ [128] ++ List.replicate (zpad r.length) 0 ++ be64 (n * 8) i).length cc) from stC_a8 _))) rfl ?_; rintro _ _ ⟨rfl, rfl⟩; refine ⟨[_, _], rfl, ?_⟩
   refine Z2l ?_
   refine ei_i rfl rfl (wn_none rfl) (os_bslice (E := encU8) [_] (ys := [_]) sB_162 zv_5 rfl rfl rfl rfl (by decide)) rfl ?_; rintro _ _ ⟨ao5, rfl, rfl⟩; refine ⟨[_, _, _], rfl, ?_⟩
   refine Z24 ?_
   refine Zc1 ?_; intro ao6 ac6
   refine e_q 13 rfl (wn_none rfl) (op_nilck rfl) ?_
   refine e_q 14 rfl (wn_none rfl) (op_field fld_179_1 rfl) ?_
   refine Z5z ?_
   refine Zc2 ?_
   refine Zaj ?_
   have e1 : r ++ [128] ++ List.replicate (zpad r.length) 0 ++ be64 (n * 8) (i + 1) = r ++ [128] ++ List.replicate (zpad r.length) 0 ++ be64 (n * 8) i ++ [UInt8.ofNat (n * 8 / 2 ^ (56 - 8 * i))] := by rw [be64_succ]; simp only [List.append_assoc]
   refine px_loop2 (i + 1, ao6, ac6) (by dsimp only; omega) (by (try dsimp only); omega) ⟨congrArg (Value.int .i64) (by simp), trivial⟩ ?_ (fun _ s => (by (try dsimp only); rw [e1]; exact (s.del 2)))
   exact Z2
  refine ei_i rfl rfl (wn_none rfl) (os_bslice (E := encU8) [_] (ys := [_]) sB_162 zv_5 rfl rfl rfl rfl (by decide)) rfl ?_; rintro _ _ ⟨ao7, rfl, rfl⟩; refine ⟨[_, _, _], rfl, ?_⟩
  refine Z2g ?_
  refine ei_i rfl rfl (wn_none rfl) (os_q (op_ld 1 sc_162 rfl rfl (show (stC _).toArray[8]? = some (.slice co (r ++ [128] ++ List.replicate (zpad r.length) 0 ++ be64 (n * 8) i).length cc) from stC_a8 _))) rfl ?_; rintro _ _ ⟨rfl, rfl⟩; refine ⟨[_, _, _], rfl, ?_⟩
  refine Z24 ?_
  refine Zc1 ?_; intro ao8 ac8
  refine e_q 13 rfl (wn_none rfl) (op_nilck rfl) ?_
  refine e_q 14 rfl (wn_none rfl) (op_field fld_179_1 rfl) ?_
  refine Z5z ?_
  refine Zc2 ?_
  refine Zaj ?_
  have e1 : r ++ [128] ++ List.replicate (zpad r.length) 0 ++ be64 (n * 8) (i + 1) = r ++ [128] ++ List.replicate (zpad r.length) 0 ++ be64 (n * 8) i ++ [UInt8.ofNat (n * 8 / 2 ^ (56 - 8 * i))] := by rw [be64_succ]; simp only [List.append_assoc]
  refine px_loop2 (i + 1, ao8, ac8) (by dsimp only; omega) (by (try dsimp only); omega) ⟨congrArg (Value.int .i64) (by simp), trivial⟩ ?_ (fun _ s => (by (try dsimp only); rw [e1]; exact (s.del 2)))
  exact Z2
 have hp2 := hb2
 (try simp only [bn] at hp2)
 obtain rfl : i = 8 := by omega
 refine Z1e ?_
 refine Z7 ?_
 refine cd_block ?_
 refine cd_loop2 (α := W8 × List UInt8 × Option Addr × Nat) [(57, 77)] (fun x => []) (fun x => Blk p (.cells (stC ⟨x.1, ⟨x.2.2.1, (x.2.1).length, x.2.2.2⟩, n⟩).toArray 179 (0, 0)) :: Row 5 encU8 (.slice x.2.2.1 (x.2.1).length x.2.2.2) (x.2.1) :: Blk bx1 (.cells (rootC Root.zero).toArray 24 (0, 0)) :: l) (fun x => runs x.1 x.2.1 = runs w1 (padM r n) ∧ x.2.1.length % 64 = 0 ∧ x.2.1.length ≤ 128) (fun x => x.2.1.length) (w1, padM r n, co, cc) ⟨rfl, by dsimp only; omega, by dsimp only; omega⟩ trivial (fun _ s => s) ?_
 rintro ⟨u, b, bo, bc⟩ ⟨h1, h2, h3⟩ f; dsimp only at h1 h2 h3 ⊢
 refine Z1q ?_
 refine Z3d ?_
 refine Z7o ?_
 refine oq (op_len_slice Try.underlying162 rfl) ?_
 refine oq (op_gt rfl rfl) ?_
 refine Z1 ?_
 refine cd_cond rfl (fun hb3 => ?_) (fun hb3 => ?_)
 ·have hp3 := hb3
  (try simp only [bn] at hp3)
  have hb64 : 64 ≤ b.length := by omega
  refine Z3g ?_
  refine Z6a ?_
  refine Z1p ?_
  refine Z3d ?_
  refine Z7o ?_
  refine Z9 ?_
  refine oi (os_slicerow_lend 64 sB_162 rfl rfl rfl rfl (by omega)) ?_; rintro _ _ ⟨rfl, rfl⟩
  refine Z9 ?_
  refine Zc0 ?_
  refine ol_nil ?_
  refine Zag ?_
  refine Z1p ?_
  refine Z1p ?_
  refine Z3d ?_
  refine Z7o ?_
  refine Z9 ?_
  refine oi (os_slicerow_from 64 sB_162 rfl rfl rfl rfl (by omega)) ?_; rintro _ _ ⟨bo2, bc2, rfl, rfl⟩
  refine Z3d ?_
  refine Z9 ?_
  refine Z92 ?_
  refine ol_nil ?_
  refine px_loop2 (blk8 u (b.take 64), b.drop 64, bo2, bc2) ⟨by rw [← h1, runs_ge (w := u) hb64], by dsimp only; rw [List.length_drop]; omega, by dsimp only; rw [List.length_drop]; omega⟩ (by (try dsimp only); rw [List.length_drop]; omega) trivial ?_ (fun _ s => s)
  exact Z2
 have hp3 := hb3
 (try simp only [bn] at hp3)
 have hb0 : b.length < 64 := by omega
 refine Z2d ?_
 refine Z1w ?_; intro bx2
 refine Z1 ?_
 refine Z1q ?_
 refine Zr ?_
 refine oq (op_field fld_179_0 rfl) ?_
 refine oq (op_lda  1 ag_164 rfl rfl (stC_af0 _) (by simp [stC_len])) ?_
 refine Z1l ?_
 refine cd_loop2 (α := Nat) [(6, 7), (82, 112)] (fun x => [(82, .int .i64 (x : Int))]) (fun x => Blk bx2 (.cells (rootC (outN u x)).toArray 24 (0, 0)) :: Blk bx1 (.cells (rootC Root.zero).toArray 24 (0, 0)) :: l) (fun x => x ≤ 8) (fun x => 8 - x) 0 (Nat.zero_le _) ⟨rfl, trivial⟩ (fun _ s => by rw [outN_zero]; exact ((s.del 2).del 1)) ?_
 rintro j hj f; (try dsimp only at hj ⊢)
 refine Zx ?_
 refine cd_cond rfl (fun hb4 => ?_) (fun hb4 => ?_)
 ·have hp4 := hb4
  (try simp only [bn] at hp4)
  have hj8 : j < 8 := by omega
  refine Z2t ?_
  refine oq (op_ixa _ arp_164 rfl rfl rfl (by omega) (wC_gd (ws := u.1) (by rw [u.2]; omega))) ?_
  refine Zq ?_
  refine Z8 ?_
  refine Z1b ?_
  refine Z4 ?_
  refine Z7p ?_
  refine Z4 ?_
  refine Z7p ?_
  refine Zah ?_
  refine Z7p ?_
  refine Zah ?_
  refine Z7p ?_
  refine Zah ?_
  refine oq (op_shr32 (m := 24) _ rfl rfl (by decide)) ?_
  refine Z93 ?_
  refine Z4 ?_
  refine oq (op_shr32 (m := 16) _ rfl rfl (by decide)) ?_
  refine Z93 ?_
  refine Z4 ?_
  refine oq (op_shr32 (m := 8) _ rfl rfl (by decide)) ?_
  refine Z93 ?_
  refine Z4 ?_
  refine Z93 ?_
  refine oq (op_aidx0 (4 * j) a1_24 rfl rfl (by omega) (by omega)) ?_
  refine oN (os_store (v := .int _ _) sc_5 rfl rfl rfl (Nat.ble_eq_true_of_le (show 4 * j + 1 ≤ _ by rw [List.size_toArray, rootC_len]; omega)) (Free.zero _) (rootC_set _ _ _)) ?_; rintro _ _ ⟨rfl, rfl⟩
  refine oq (op_aidx0 (4 * j + 1) a1_24 rfl rfl (by omega) (by omega)) ?_
  refine oN (os_store (v := .int _ _) sc_5 rfl rfl rfl (Nat.ble_eq_true_of_le (show 4 * j + 1 + 1 ≤ _ by rw [List.size_toArray, rootC_len]; omega)) (Free.zero _) (rootC_set _ _ _)) ?_; rintro _ _ ⟨rfl, rfl⟩
  refine oq (op_aidx0 (4 * j + 2) a1_24 rfl rfl (by omega) (by omega)) ?_
  refine oN (os_store (v := .int _ _) sc_5 rfl rfl rfl (Nat.ble_eq_true_of_le (show 4 * j + 2 + 1 ≤ _ by rw [List.size_toArray, rootC_len]; omega)) (Free.zero _) (rootC_set _ _ _)) ?_; rintro _ _ ⟨rfl, rfl⟩
  refine oq (op_aidx0 (4 * j + 3) a1_24 rfl rfl (by omega) (by omega)) ?_
  refine oN (os_store (v := .int _ _) sc_5 rfl rfl rfl (Nat.ble_eq_true_of_le (show 4 * j + 3 + 1 ≤ _ by rw [List.size_toArray, rootC_len]; omega)) (Free.zero _) (rootC_set _ _ _)) ?_; rintro _ _ ⟨rfl, rfl⟩
  refine Z35 ?_
  refine px_loop2 (j + 1) (by omega) (by (try dsimp only); omega) ⟨congrArg (Value.int .i64) (by simp), trivial⟩ ?_ (fun _ s => (by (try dsimp only); rw [outN_succ u hj8]; exact s))
  exact Z2
 have hp4 := hb4
 (try simp only [bn] at hp4)
 obtain rfl : j = 8 := by omega
 refine Z2d ?_
 refine Z2k ?_
 refine Z9 ?_
 refine Z4s ?_
 have e9 : runs w1 (padM r n) = u := by rw [← h1, runs_lt hb0]
 exact px_rv1 rfl (rv_cella 0 ag_24 rfl rfl (rootC_take' _) (by simp [rootC_len])) (fun _ s => ((s.del 1).del 0)) ⟨by rw [e9]; rfl, rfl⟩
end Go.SL

set_option linter.unusedVariables false
set_option linter.unusedSimpArgs false
namespace Go.SL
open Go.Proofs

set_option maxRecDepth 100000 in
set_option maxHeartbeats 1000000 in
theorem Of_calls {w0 w : World} {l : List HProp} (lo : Option Addr) (lc : Nat) (ts : List (List UInt8)) (hs : Sat w0 w (l)) (hr : Rds w0 l encStr lo ts) (hn : ts.flatten.length < 100000000) (hlen : ts.length ≤ 1000000) :
  Calls Try.prog 97 #[.slice lo ts.length lc] w (Ret w0 fun v l' => v = .agg (rootC (shaM ts.flatten)).toArray ∧ l' = l) := by
 refine calls_enter Try.func97 rfl rfl rfl hs ?_
 refine Z0 ?_
 refine Z1w ?_; intro bx1
 refine Z19 ?_
 refine oi (os_call cb_109 rfl (fun w s => first_calls  s )) ?_; rintro _ _ ⟨rfl, rfl⟩
 refine oq (op_build (L := stC _) (vs := [(0, .agg (w8C _).toArray)]) bB_179 rfl ⟨⟨by simp [Value.cells, w8C_len], by rw [stC_len]; rfl⟩, trivial⟩ ((stC_b0 _ _ _).trans rfl)) ?_
 refine Z2f ?_; intro bx2
 refine Zc ?_
 refine Z4c ?_
 refine Zm ?_
 refine oq (op_len_slice Try.underlying175 rfl) ?_
 refine Z1l ?_
 refine cd_loop2 (α := Nat × Option Addr × Nat) [(5, 5), (11, 18)] (fun x => [(11, .int .i64 (x.1 : Int))]) (fun x => Blk bx2 (.cells (stC ⟨runs H8 (ts.take x.1).flatten, ⟨x.2.1, (left (ts.take x.1).flatten).length, x.2.2⟩, (ts.take x.1).flatten.length⟩).toArray 179 (0, 0)) :: Row 5 encU8 (.slice x.2.1 (left (ts.take x.1).flatten).length x.2.2) (left (ts.take x.1).flatten) :: Blk bx1 (.cells (rootC Root.zero).toArray 24 (0, 0)) :: l) (fun x => x.1 ≤ ts.length) (fun x => ts.length - x.1) (0, none, 0) (Nat.zero_le _) ⟨rfl, trivial⟩ (fun _ s => by dsimp only; rw [List.take_zero, List.flatten_nil, left_nil, runs_nil]; exact (Sat.rowNil s).pull 1) ?_
 rintro ⟨i, bo, bc⟩ hi f; (try dsimp only at hi ⊢)
 refine Zx ?_
 refine cd_cond rfl (fun hb1 => ?_) (fun hb1 => ?_)
 ·have hp1 := hb1
  (try simp only [bn] at hp1)
  have hi1 : i < ts.length := by omega
  have e1 : (ts.take (i + 1)).flatten = (ts.take i).flatten ++ ts[i] := by rw [List.take_succ_eq_append_getElem hi1, List.flatten_append, List.flatten_cons, List.flatten_nil, List.append_nil]
  have e2 := runs_append ts[i] _ (ts.take i).flatten H8 rfl
  have e3 : ts.flatten.length = (ts.take (i + 1)).flatten.length + (ts.drop (i + 1)).flatten.length := by rw [← List.length_append, ← List.flatten_append, List.take_append_drop]
  rw [e1, List.length_append] at e3
  have e4 := left_length (ts.take i).flatten
  refine Z33 ?_
  refine oq (op_index _ sB_175 rfl rfl rfl (((hr.cons _).cons _).cons _) rfl (by omega)) ?_
  refine oq (op_ldw sc_9 (((hr.cons _).cons _).cons _) rfl (by omega) rfl) ?_
  refine Z45 ?_
  refine Z1 ?_
  refine Z6a ?_
  refine Z4n ?_
  refine Z9 ?_
  refine Z9 ?_
  refine oi (os_call cb_110 rfl (fun w s => add_calls _ _ _ _ _ _ _  s (by omega) (by omega))) ?_; rintro _ _ ⟨ro2, rc2, rfl, rfl⟩
  refine Z35 ?_
  refine px_loop2 (i + 1, ro2, rc2) (by dsimp only; omega) (by (try dsimp only); omega) ⟨congrArg (Value.int .i64) (by simp), trivial⟩ ?_ (fun _ s => (by (try dsimp only); rw [e1, e2.1, e2.2, List.length_append]; exact s))
  exact Z2
 have hp1 := hb1
 (try simp only [bn] at hp1)
 obtain rfl : i = ts.length := by omega
 rw [List.take_length]
 have e4 := left_length ts.flatten
 refine Z1e ?_
 refine Zg ?_
 refine Z9 ?_
 refine Z9 ?_
 refine oi (os_call cb_111 rfl (fun w s => end_calls _ _ _ _ _ _  s (by omega) (by omega))) ?_; rintro _ _ ⟨rfl, rfl⟩
 refine Z4s ?_
 exact px_rv1 rfl (rv_cella 0 ag_24 rfl rfl (rootC_take' _) (by simp [rootC_len])) (fun _ s => (s.del 0)) ⟨rfl, rfl⟩

end Go.SL

set_option linter.unusedVariables false
set_option linter.unusedSimpArgs false
namespace Go.SL
open Go.Proofs

set_option maxRecDepth 100000 in
set_option maxHeartbeats 1000000 in
theorem Mul64_calls {w0 w : World} {l : List HProp} (x y : Nat) (hs : Sat w0 w (l)) (hx : x < 18446744073709551616) (hy : y < 18446744073709551616) :
  Calls Try.prog 116 #[.int .u64 (x : Int), .int .u64 (y : Int)] w (Ret w0 fun v l' => v = .tuple #[.int .u64 ((mul64 x y).1 : Int), .int .u64 ((mul64 x y).2 : Int)] ∧ l' = l) := by
 refine calls_enter Try.func116 rfl rfl rfl hs ?_
 refine Z0 ?_
 refine Zq ?_
 refine Z1r ?_
 refine oq (op_andlo rfl (by omega) rfl) ?_
 refine Z1r ?_
 refine Z6k ?_
 refine Z1r ?_
 refine oq (op_andlo rfl (by omega) rfl) ?_
 refine Z1r ?_
 refine Z6k ?_
 refine Z1r ?_
 refine Z4 ?_
 refine oq (op_mulw64 rfl rfl) ?_
 refine Z1r ?_
 refine Z4 ?_
 refine oq (op_mulw64 rfl rfl) ?_
 refine Z4 ?_
 refine Z6k ?_
 refine oq (op_addw64 rfl rfl) ?_
 refine Z1r ?_
 refine oq (op_andlo rfl (by omega) rfl) ?_
 refine Z1r ?_
 refine Z6k ?_
 refine Z1r ?_
 refine Z2u ?_
 refine oq (op_mulw64 rfl rfl) ?_
 refine oq (op_addw64 rfl rfl) ?_
 refine Z1r ?_
 refine Z4 ?_
 refine oq (op_mulw64 rfl rfl) ?_
 refine Z4 ?_
 refine oq (op_addw64 rfl rfl) ?_
 refine Z4 ?_
 refine Z6k ?_
 refine oq (op_addw64 rfl rfl) ?_
 refine Z1r ?_
 refine Z4 ?_
 refine oq (op_mulw64 rfl rfl) ?_
 refine Zp ?_
 exact px_ret2 rfl (v1 := .int _ _) (v2 := .int _ _) rfl rfl (fun _ s => s) ⟨rfl, rfl⟩

set_option maxRecDepth 100000 in
set_option maxHeartbeats 1000000 in
theorem above_calls {w0 w : World} {l : List HProp} (x p : Nat) (power : Int) (hs : Sat w0 w (l)) (hx : x < 18446744073709551616) :
  Calls Try.prog 113 #[.int .u64 (x : Int), .int .u64 (p : Int), .int .i64 power] w (Ret w0 fun v l' => v = .bool (aboveM x p power) ∧ l' = l) := by
 refine calls_enter Try.func113 rfl rfl rfl hs ?_
 refine Z0 ?_
 refine Zb ?_
 refine Z18 ?_
 refine Z4 ?_
 refine oi (os_call cb_116 rfl (fun w s => Mul64_calls _ _  s hx hx)) ?_; rintro _ _ ⟨rfl, rfl⟩
 refine Z38 ?_
 refine Z3l ?_
 refine Z3l ?_
 refine Zq ?_
 refine Z8 ?_
 refine Z5b ?_
 refine cd_cond rfl (fun hb1 => ?_) (fun hb1 => ?_)
 ·have hp1 := hb1
  (try simp only [bn] at hp1)
  have hpow : power = 2 := by omega
  refine Z18 ?_
  refine Z4 ?_
  refine oq (op_gt rfl rfl) ?_
  refine Z5 ?_
  refine ol_split 28 rfl (fun hb2 => ?_) (fun hb2 => ?_)
  ·have hp2 := hb2
   (try simp only [bn] at hp2)
   refine Z1g ?_
   refine Z1g ?_
   refine ol_skip (wn_undef rfl rfl rfl rfl) rfl ?_
   refine ol_skip (wn_undef rfl rfl rfl rfl) rfl ?_
   refine Z5s ?_
   refine Z37 ?_
   refine Zv ?_
   exact px_ret1 rfl (v := .bool _) rfl (fun _ s => s) ⟨congrArg Value.bool (by unfold aboveM; rw [if_pos hpow, decide_eq_true (show p < (mul64 x x).1 by omega)]; rfl), rfl⟩
  have hp2 := hb2
  (try simp only [bn] at hp2)
  refine Z4i ?_
  refine Z4i ?_
  refine ol_q (wn_some rfl rfl rfl hb2 rfl) (op_eqn rfl rfl) rfl ?_
  refine ol_q (wn_some rfl rfl rfl hb2 rfl) (op_move (v := .bool _) rfl) rfl ?_
  refine ol_split 32 rfl (fun hb3 => ?_) (fun hb3 => ?_)
  ·have hp3 := hb3
   (try simp only [bn] at hp3)
   refine Z5f ?_
   refine Z5t ?_
   refine ol_q (wn_some rfl rfl rfl hb2 rfl) (op_pick_t (v := .bool _) rfl hb3 rfl) rfl ?_
   refine Z2v ?_
   refine Zv ?_
   exact px_ret1 rfl (v := .bool _) rfl (fun _ s => s) ⟨congrArg Value.bool (by unfold aboveM; rw [if_pos hpow, decide_eq_false (show ¬ p < (mul64 x x).1 by omega), decide_eq_true (show (mul64 x x).1 = p by omega), Bool.false_or, Bool.true_and]; exact decide_eq_decide.2 (by omega)), rfl⟩
  have hp3 := hb3
  (try simp only [bn] at hp3)
  refine Z2p ?_
  refine ol_q (wn_some rfl rfl rfl hb2 rfl) (op_pick_f (v := .bool _) rfl hb3 rfl) rfl ?_
  refine Z2v ?_
  refine Zv ?_
  exact px_ret1 rfl (v := .bool _) rfl (fun _ s => s) ⟨congrArg Value.bool (by unfold aboveM; rw [if_pos hpow, decide_eq_false (show ¬ p < (mul64 x x).1 by omega), decide_eq_false (show ¬ (mul64 x x).1 = p by omega)]; rfl), rfl⟩
 have hp1 := hb1
 (try simp only [bn] at hp1)
 have hpow : ¬ power = 2 := by omega
 refine Za ?_
 refine Z18 ?_
 refine Z4 ?_
 refine oi (os_call cb_116 rfl (fun w s => Mul64_calls _ _  s (mul64_lt _ _).1 hx)) ?_; rintro _ _ ⟨rfl, rfl⟩
 refine Z38 ?_
 refine Z3l ?_
 refine Z3l ?_
 refine Zq ?_
 refine Z1r ?_
 refine Z4 ?_
 refine oi (os_call cb_116 rfl (fun w s => Mul64_calls _ _  s (mul64_lt _ _).2 hx)) ?_; rintro _ _ ⟨rfl, rfl⟩
 refine Z38 ?_
 refine Z3l ?_
 refine Z3l ?_
 refine Zq ?_
 refine Z1r ?_
 refine Z4 ?_
 refine oq (op_add64x Try.func117 (by kernel_rfl) (by kernel_rfl) (by kernel_rfl) (by kernel_rfl) rfl rfl rfl) ?_
 refine Z38 ?_
 refine Z3l ?_
 refine Z3l ?_
 refine Zq ?_
 refine Z1r ?_
 refine Z4 ?_
 refine oq (op_addw64 rfl rfl) ?_
 refine Z8 ?_
 refine Zf ?_
 refine Z4 ?_
 refine Z6k ?_
 refine Z5c ?_
 refine cd_cond rfl (fun hb4 => ?_) (fun hb4 => ?_)
 ·have hp4 := hb4
  (try simp only [bn] at hp4)
  refine Z18 ?_
  refine Z4 ?_
  refine Z6k ?_
  refine oq (op_gt rfl rfl) ?_
  refine Zv ?_
  exact px_ret1 rfl (v := .bool _) rfl (fun _ s => s) ⟨congrArg Value.bool (by unfold aboveM; rw [if_neg hpow, if_pos (show (((mul64 (mul64 x x).1 x).1 + ((mul64 (mul64 x x).1 x).2 + (mul64 (mul64 x x).2 x).1) / 18446744073709551616) % 18446744073709551616) ≠ p / 2 ^ 32 by omega)]; exact decide_eq_decide.2 (by omega)), rfl⟩
 have hp4 := hb4
 (try simp only [bn] at hp4)
 refine Za ?_
 refine Z18 ?_
 refine oq (op_shlw64 (m := 32) rfl rfl (by decide)) ?_
 refine Z8 ?_
 refine Zf ?_
 refine Z4 ?_
 refine Z5c ?_
 refine cd_cond rfl (fun hb5 => ?_) (fun hb5 => ?_)
 ·have hp5 := hb5
  (try simp only [bn] at hp5)
  refine Z18 ?_
  refine Z4 ?_
  refine oq (op_gt rfl rfl) ?_
  refine Zv ?_
  exact px_ret1 rfl (v := .bool _) rfl (fun _ s => s) ⟨congrArg Value.bool (by unfold aboveM; rw [if_neg hpow, if_neg (show ¬ (((mul64 (mul64 x x).1 x).1 + ((mul64 (mul64 x x).1 x).2 + (mul64 (mul64 x x).2 x).1) / 18446744073709551616) % 18446744073709551616) ≠ p / 2 ^ 32 by omega), if_pos (show (((mul64 (mul64 x x).1 x).2 + (mul64 (mul64 x x).2 x).1) % 18446744073709551616) ≠ (p * 2 ^ 32 % 18446744073709551616) by omega)]; exact decide_eq_decide.2 (by omega)), rfl⟩
 have hp5 := hb5
 (try simp only [bn] at hp5)
 refine Za ?_
 refine Z18 ?_
 refine oq (op_gt rfl rfl) ?_
 refine Zk ?_
 exact px_ret1 rfl (v := .bool _) rfl (fun _ s => s) ⟨congrArg Value.bool (by unfold aboveM; rw [if_neg hpow, if_neg (show ¬ (((mul64 (mul64 x x).1 x).1 + ((mul64 (mul64 x x).1 x).2 + (mul64 (mul64 x x).2 x).1) / 18446744073709551616) % 18446744073709551616) ≠ p / 2 ^ 32 by omega), if_neg (show ¬ (((mul64 (mul64 x x).1 x).2 + (mul64 (mul64 x x).2 x).1) % 18446744073709551616) ≠ (p * 2 ^ 32 % 18446744073709551616) by omega)]; exact decide_eq_decide.2 (by omega)), rfl⟩

set_option maxRecDepth 100000 in
set_option maxHeartbeats 1000000 in
theorem right_calls {w0 w : World} {l : List HProp} (X : UInt32) (k : Int) (hs : Sat w0 w (l)) (h0 : 0 < k) (h1 : k < 32) :
  Calls Try.prog 114 #[.int .u32 (X.toNat : Int), .int .i64 k] w (Ret w0 fun v l' => v = .int .u32 ((rotr X k.toNat).toNat : Int) ∧ l' = l) := by
 refine calls_enter Try.func114 rfl rfl rfl hs ?_
 refine Z0 ?_
 refine Z1r ?_
 refine Z4 ?_
 refine oq (op_conv64m (k.toNat) Try.underlying74 (by rw [Try.underlying3]; rfl) rfl (by omega) (by omega)) ?_
 refine oq (op_shr32 (m := k.toNat) _ rfl rfl (by omega)) ?_
 refine Z2u ?_
 refine Z2m ?_
 refine oq (op_conv64m (32 - k.toNat) Try.underlying74 (by rw [Try.underlying3]; rfl) rfl (by omega) (by omega)) ?_
 refine oq (op_shl32 (m := 32 - k.toNat) _ rfl rfl (by omega)) ?_
 refine oq (op_or32 _ _ rfl rfl) ?_
 refine Zp ?_
 exact px_ret1 rfl (v := .int _ _) rfl (fun _ s => s) ⟨by unfold rotr; rw [UInt32.or_comm], rfl⟩

set_option maxRecDepth 100000 in
set_option maxHeartbeats 1000000 in
theorem root_calls {w0 w : World} {l : List HProp} (p : Nat) (power : Int) (hs : Sat w0 w (l))  :
  Calls Try.prog 100 #[.int .u64 (p : Int), .int .i64 power] w (Ret w0 fun v l' => v = .int .u32 ((rootM p power).toNat : Int) ∧ l' = l) := by
 refine calls_enter Try.func100 rfl rfl rfl hs ?_
 refine Z0 ?_
 refine Z8 ?_
 refine Z0 ?_
 refine Z8 ?_
 refine Z15 ?_
 refine Z3j ?_
 refine cd_loop2 (α := Nat) [(5, 24)] (fun x => [(5, .int .u64 (rootN p power x : Int)), (6, .int .i64 (39 - (x : Int)))]) (fun _ => _) (fun x => x ≤ 40) (fun x => 40 - x) 0 (Nat.zero_le _) ⟨rfl, congrArg (Value.int .i64) (by simp), trivial⟩ (fun _ s => s) ?_
 rintro i hi f; (try dsimp only at hi ⊢)
 refine Zf ?_
 refine Z3s ?_
 refine cd_cond rfl (fun hb1 => ?_) (fun hb1 => ?_)
 ·have hp1 := hb1
  (try simp only [bn] at hp1)
  have hi40 : i < 40 := by omega
  refine Z2t ?_
  refine Z4 ?_
  refine Zd4 ?_
  refine oq (op_addw64 rfl rfl) ?_
  refine Z2u ?_
  refine oi (os_call cb_113 rfl (fun w s => above_calls _ _ _  s (Nat.mod_lt _ (by decide)))) ?_; rintro _ _ ⟨rfl, rfl⟩
  refine Z3e ?_
  refine Z1 ?_
  refine cd_cond rfl (fun hb2 => ?_) (fun hb2 => ?_)
  ·have hp2 := hb2
   (try simp only [bn] at hp2)
   refine Z1b ?_
   refine Z2u ?_
   refine Zd4 ?_
   refine oq (op_addw64 rfl rfl) ?_
   refine Z2s ?_
   refine Z4p ?_
   refine Z2m ?_
   refine Z2s ?_
   have e1 : rootN p power (i + 1) = (rootN p power i + 1 * 2 ^ (39 - i)) % 18446744073709551616 := by rw [rootN, if_neg (by simpa using hb2)]
   refine Zc3 ?_
   exact Z2
  have hp2 := hb2
  (try simp only [bn] at hp2)
  refine cd_skip ?_
  refine Z4p ?_
  refine Z2m ?_
  refine Z2s ?_
  have e1 : rootN p power (i + 1) = rootN p power i := by rw [rootN, if_pos (by simpa using hb2)]
  refine Zc3 ?_
  exact Z2
 have hp1 := hb1
 (try simp only [bn] at hp1)
 obtain rfl : i = 40 := by omega
 refine Z1e ?_
 refine Z18 ?_
 refine oq (op_remn (C := 4294967296) rfl rfl (by first | decide | omega)) ?_
 refine oq (op_conv32 Try.underlying163 (by rw [Try.underlying142]; rfl) rfl) ?_
 exact Zbf

set_option maxRecDepth 100000 in
set_option maxHeartbeats 1000000 in
theorem primes_calls {w0 w : World} {l : List HProp} (n : Int) (hs : Sat w0 w (l)) (h0 : 0 ≤ n) (h1 : n ≤ 64) :
  Calls Try.prog 99 #[.int .i64 n] w (Ret w0 fun v l' => ∃ ao c, v = .slice ao (prm n.toNat).length c ∧ l' = Row 142 encU64 (.slice ao (prm n.toNat).length c) (prm n.toNat) :: l) := by
 refine calls_enter Try.func99 rfl rfl rfl hs ?_
 refine Z0 ?_
 refine Zw ?_
 refine Z19 ?_
 refine Zw ?_
 refine Z4c ?_
 refine Z3j ?_
 refine cd_loop2 (α := Nat × Option Addr × Nat) [(3, 5), (7, 32)] (fun x => [(3, .slice x.2.1 (PLs x.1).length x.2.2), (4, .int .u64 ((x.1 + 2 : Nat) : Int))]) (fun x => Row 142 encU64 (.slice x.2.1 (PLs x.1).length x.2.2) (PLs x.1) :: l) (fun x => x.1 ≤ 310 ∧ ((PLs x.1).length : Int) ≤ n) (fun x => 310 - x.1) (0, none, 0) ⟨Nat.zero_le _, h0⟩ ⟨rfl, rfl, trivial⟩ (fun _ s => Sat.rowNil s) ?_
 rintro ⟨i, vo, vc⟩ ⟨hi, hlen⟩ f; (try dsimp only at hi hlen ⊢)
 refine Z15 ?_
 refine Zm ?_
 refine oq (op_len_slice Try.underlying165 rfl) ?_
 refine Z4 ?_
 refine Z3u ?_
 refine cd_cond rfl (fun hb1 => ?_) (fun hb1 => ?_)
 ·have hp1 := hb1
  (try simp only [bn] at hp1)
  have hlt : ((PLs i).length : Int) < n := hp1
  have hi310 : i < 310 := by
   rcases Nat.lt_or_ge i 310 with h | h
   ·exact h
   have e9 : i = 310 := by omega
   rw [e9, PLs_64] at hlt
   omega
  refine Z33 ?_
  refine Zb ?_
  refine Z15 ?_
  refine Zm ?_
  refine oq (op_len_slice Try.underlying165 rfl) ?_
  refine Z1l ?_
  refine cd_loop2 (α := Nat) [(5, 5), (7, 7), (16, 27)] (fun x => [(5, .bool (((PLs i).take x).all (fun p => decide ((i + 2) % p ≠ 0)))), (16, .int .i64 (x : Int))]) (fun _ => _) (fun x => x ≤ (PLs i).length) (fun x => (PLs i).length - x) 0 (Nat.zero_le _) ⟨rfl, rfl, trivial⟩ (fun _ s => s) ?_
  rintro j hj f; (try dsimp only at hj ⊢)
  refine Zx ?_
  refine cd_cond rfl (fun hb2 => ?_) (fun hb2 => ?_)
  ·have hp2 := hb2
   (try simp only [bn] at hp2)
   have hj1 : j < (PLs i).length := by omega
   have hrg := PLs_rg i (PLs i)[j] (List.getElem_mem hj1)
   have hp0 : 0 < (PLs i)[j] := by omega
   refine Z33 ?_
   refine oq (op_index _ sB_165 rfl rfl rfl (rds_row 0 rfl rfl) rfl (by omega)) ?_
   refine oq (op_ldw sc_142 (rds_row 0 rfl rfl) rfl (by omega) rfl) ?_
   refine Z8 ?_
   refine Z1b ?_
   refine Z5 ?_
   refine Z5 ?_
   refine ol_split 21 rfl (fun hb3 => ?_) (fun hb3 => ?_)
   ·have hp3 := hb3
    (try simp only [bn] at hp3)
    refine Z5f ?_
    refine Z5f ?_
    refine ol_q (wn_some rfl rfl rfl hb3 rfl) (op_remn rfl rfl hp0) rfl ?_
    refine ol_q (wn_some rfl rfl rfl hb3 rfl) (op_ne rfl rfl) rfl ?_
    refine Z4j ?_
    refine oq (op_assign (v := .bool _) rfl) ?_
    refine Z35 ?_
    have e1 := all_step (fun p => decide ((i + 2) % p ≠ 0)) hj1
    refine Zc4 ?_
    exact Z2
   have hp3 := hb3
   (try simp only [bn] at hp3)
   refine Z2p ?_
   refine Z2p ?_
   refine Z5g ?_
   refine oq (op_assign (v := .bool _) rfl) ?_
   refine Z35 ?_
   have e1 := all_step (fun p => decide ((i + 2) % p ≠ 0)) hj1
   refine Zc4 ?_
   exact Z2
  have hp2 := hb2
  (try simp only [bn] at hp2)
  obtain rfl : j = (PLs i).length := by omega
  rw [List.take_length]
  refine Z2d ?_
  refine Z5 ?_
  refine Z1 ?_
  refine cd_cond rfl (fun hb4 => ?_) (fun hb4 => ?_)
  ·have hp4 := hb4
   (try simp only [bn] at hp4)
   refine Z1b ?_
   refine Zm ?_
   refine Z4 ?_
   refine oi (os_bslice (E := encU64) [_] (ys := [_]) sB_165 zv_142 rfl rfl rfl rfl (by decide)) ?_; rintro _ _ ⟨ao1, rfl, rfl⟩
   refine Z9 ?_
   refine oi (os_append (E := encU64) rfl sB_165 zv_142 rfl rfl rfl (fun w s => (rds_row 1 rfl rfl) [] w s) rfl (by simp; omega) (by unfold maxLen; simp; omega)) ?_; rintro _ _ ⟨ao2, ac2, rfl, rfl⟩
   refine Zw ?_
   refine ol_nil ?_
   refine Z4p ?_
   refine oq (op_addn (C := 1) rfl rfl (by omega)) ?_
   refine Z2s ?_
   have e2 : PLs (i + 1) = PLs i ++ [i + 2] := by rw [PLs_step, if_pos hb4]
   have e3 := PLs_len_le (i := i)
   refine px_loop2 (i + 1, ao2, ac2) ⟨by dsimp only; omega, by dsimp only; omega⟩ (by (try dsimp only); omega) ⟨congrArg (fun q => Value.slice ao2 (List.length q) ac2) e2.symm, congrArg (Value.int .u64) (by omega), trivial⟩ ?_ (fun _ s => (by (try dsimp only); rw [e2]; exact (s.del 1)))
   exact Z2
  have hp4 := hb4
  (try simp only [bn] at hp4)
  refine cd_skip ?_
  refine Z4p ?_
  refine oq (op_addn (C := 1) rfl rfl (by omega)) ?_
  refine Z2s ?_
  have e2 : PLs (i + 1) = PLs i := by rw [PLs_step, if_neg (by rw [hb4]; simp)]
  have e3 := PLs_len_le (i := i)
  refine px_loop2 (i + 1, vo, vc) ⟨by dsimp only; omega, by dsimp only; omega⟩ (by (try dsimp only); omega) ⟨congrArg (fun q => Value.slice vo (List.length q) vc) e2.symm, congrArg (Value.int .u64) (by omega), trivial⟩ ?_ (fun _ s => (by (try dsimp only); rw [e2]; exact s))
  exact Z2
 have hp1 := hb1
 (try simp only [bn] at hp1)
 have hprm : PLs i = prm n.toNat := PLs_is hi (by omega)
 rw [hprm]
 refine Z2d ?_
 refine Zm ?_
 refine Zw ?_
 refine Z1s ?_
 exact px_ret1 rfl (v := .slice _ _ _) rfl (fun _ s => s) ⟨_, _, rfl, rfl⟩
end Go.SL

set_option linter.unusedVariables false
set_option linter.unusedSimpArgs false
namespace Go.SL
open Go.Proofs

set_option maxRecDepth 100000 in
set_option maxHeartbeats 1000000 in
theorem block_calls {w0 w : World} {l : List HProp} (h : W8) (s : List UInt8) (hs : Sat w0 w (l)) (hs64 : s.length = 64) :
  Calls Try.prog 101 #[.agg (w8C h).toArray, .agg (wC K64).toArray, .string (B s)] w (Ret w0 fun v l' => v = .agg (w8C (blk8 h s)).toArray ∧ l' = l) := by
 refine calls_enter Try.func101 rfl rfl rfl hs ?_
 refine Zj ?_; intro bx1
 refine Z2f ?_; intro bx2
 refine Zb0 ?_; intro bx3
 refine Z19 ?_
 refine Z8y ?_; intro bx4
 refine Z1 ?_
 refine Zf ?_
 refine Z48 ?_
 refine cd_loop2 (α := Nat) [(8, 11), (23, 83)] (fun x => [(23, .int .i64 (x : Int))]) (fun x => Blk bx4 (.cells (wC (fillA ((layM s).take x))).toArray 168 (0, 0)) :: Blk bx3 (.cells (wC (List.replicate 8 0)).toArray 164 (0, 0)) :: Blk bx2 (.cells (wC K64).toArray 168 (0, 0)) :: Blk bx1 (.cells (w8C h).toArray 164 (0, 0)) :: l) (fun x => x ≤ 64) (fun x => 64 - x) 0 (Nat.zero_le _) ⟨rfl, trivial⟩ (fun _ s => s) ?_
 rintro i hi f; (try dsimp only at hi ⊢)
 have hml : ((layM s).take i).length = i := by rw [List.length_take, layM_len]; omega
 refine Zx ?_
 refine cd_cond rfl (fun hb1 => ?_) (fun hb1 => ?_)
 ·have hp1 := hb1
  (try simp only [bn] at hp1)
  have hi64 : i < 64 := by omega
  refine Z2t ?_
  refine Z8 ?_
  refine Zf ?_
  refine Z3u ?_
  refine cd_cond rfl (fun hb2 => ?_) (fun hb2 => ?_)
  ·have hp2 := hb2
   (try simp only [bn] at hp2)
   have hi16 : i < 16 := by omega
   refine Z15 ?_
   refine Z3j ?_
   refine cd_loop2 (α := Nat) [(9, 9), (28, 45)] (fun x => [(9, .int .i64 (x : Int))]) (fun x => Blk bx4 (.cells (wC (fillA (((layM s).take i) ++ [accW s i x]))).toArray 168 (0, 0)) :: Blk bx3 (.cells (wC (List.replicate 8 0)).toArray 164 (0, 0)) :: Blk bx2 (.cells (wC K64).toArray 168 (0, 0)) :: Blk bx1 (.cells (w8C h).toArray 164 (0, 0)) :: l) (fun x => x ≤ 4) (fun x => 4 - x) 0 (Nat.zero_le _) ⟨rfl, trivial⟩ (fun _ s1 => by (try dsimp only [accW]); show Sat _ _ (Blk bx4 (.cells (wC (fillA (((layM s).take i) ++ [0]))).toArray 168 (0, 0)) :: Blk bx3 (.cells (wC (List.replicate 8 0)).toArray 164 (0, 0)) :: Blk bx2 (.cells (wC K64).toArray 168 (0, 0)) :: Blk bx1 (.cells (w8C h).toArray 164 (0, 0)) :: l); rw [← fillA_zero (by rw [hml]; omega)]; exact s1) ?_
   rintro k hk f; (try dsimp only at hk ⊢)
   refine Zf ?_
   refine Z3u ?_
   refine cd_cond rfl (fun hb3 => ?_) (fun hb3 => ?_)
   ·have hp3 := hb3
    (try simp only [bn] at hp3)
    have hk4 : k < 4 := by omega
    refine Z3g ?_
    refine cd_drawt (M := []) mx [] 14 (by kernel_rfl) rfl rfl ?_
    dsimp only [List.take_succ_cons, List.take_zero, List.drop_succ_cons, List.drop_zero]
    refine Ze ?_
    refine Ze ?_
    refine rg_q (wn_none rfl) (op_aidx0 i a1_168 rfl rfl rfl (by omega)) rfl rfl ?_
    refine rg_q (wn_none rfl) (op_ld 0 sc_163 rfl rfl (fillA_last hml.symm)) rfl rfl ?_
    refine rg_q (wn_none rfl) (op_mul32 _ 256 rfl rfl) rfl rfl ?_
    refine rg_q (wn_none rfl) (op_move (v := .string _) rfl) rfl rfl ?_
    refine Ze ?_
    refine Z8z ?_
    refine Ze ?_
    refine Z6y ?_
    refine rg_q (wn_none rfl) (op_sidx (4 * i + k) Try.underlying9 rfl rfl (by first | rfl | omega) (by omega)) rfl rfl ?_
    refine Z90 ?_
    refine rg_q (wn_none rfl) (op_add32 _ _ rfl rfl) rfl rfl ?_
    refine rg_q (wn_none rfl) (op_aidx0 i a1_168 rfl rfl rfl (by omega)) rfl rfl ?_
    refine rg_tail0 ?_
    refine oN (os_store (v := .int _ _) sc_163 rfl rfl rfl (Nat.ble_eq_true_of_le (show i + 1 ≤ _ by rw [List.size_toArray, wC_len, fillA_len (by rw [List.length_append, hml]; show i + 1 ≤ 64; omega)]; omega)) (Free.zero _) (fillA_re hml.symm (by rw [hml]; omega) _)) ?_; rintro _ _ ⟨rfl, rfl⟩
    refine ol_nil ?_
    refine Z6n ?_
    refine px_loop2 (k + 1) (by omega) (by (try dsimp only); omega) ⟨congrArg (Value.int .i64) (by simp), trivial⟩ ?_ (fun _ s => s)
    exact Z2
   have hp3 := hb3
   (try simp only [bn] at hp3)
   obtain rfl : k = 4 := by omega
   rw [accW_word]
   refine Z1e ?_
   refine cd_exit ?_
   refine Zai ?_
   refine px_then ?_
   refine Z1b ?_
   refine Zb6 ?_
   have e1 := lay_first s hi16
   exact Zu
  have hp2 := hb2
  (try simp only [bn] at hp2)
  have hi16 : 16 ≤ i := by omega
  refine Zn ?_
  refine Z6u ?_
  refine Ze ?_
  refine Z6w ?_
  refine rg_q (wn_none rfl) (op_aidx0 (i - 15) a1_168 rfl rfl (by omega) (by omega)) rfl rfl ?_
  refine Za3 ?_
  refine Ze ?_
  refine Z6w ?_
  refine rg_q (wn_none rfl) (op_aidx0 (i - 2) a1_168 rfl rfl (by omega) (by omega)) rfl rfl ?_
  refine Za3 ?_
  refine Z2w ?_
  refine Z3q ?_
  refine cd_drawe (M := [_]) mx [4, 8, 11, 13, 20, 22, 29] ?_
  refine Z6h ?_
  refine Z6t ?_
  refine e_q 2 rfl (wn_none rfl) (op_sub rfl rfl (by omega) (by omega)) ?_
  refine e_q 3 rfl (wn_none rfl) (op_aidx0 (i - 16) a1_168 rfl rfl (by omega) (by omega)) ?_
  refine Z8x ?_
  refine e_q 6 rfl (wn_none rfl) (op_sub rfl rfl (by omega) (by omega)) ?_
  refine e_q 7 rfl (wn_none rfl) (op_aidx0 (i - 7) a1_168 rfl rfl (by omega) (by omega)) ?_
  refine e_q 10 rfl (wn_none rfl) (op_move (v := .int _ _) rfl) ?_
  refine e_q 12 rfl (wn_none rfl) (op_move (v := .int _ _) rfl) ?_
  refine e_q 15 rfl (wn_none rfl) (op_move (v := .int _ _) rfl) ?_
  refine e_q 16 rfl (wn_none rfl) (op_shr32 (m := 3) _ rfl rfl (by decide)) ?_
  refine e_q 19 rfl (wn_none rfl) (op_move (v := .int _ _) rfl) ?_
  refine e_q 21 rfl (wn_none rfl) (op_move (v := .int _ _) rfl) ?_
  refine e_q 24 rfl (wn_none rfl) (op_move (v := .int _ _) rfl) ?_
  refine e_q 25 rfl (wn_none rfl) (op_shr32 (m := 10) _ rfl rfl (by decide)) ?_
  refine et_3 (i1 := 4) (i2 := 8) (i3 := 11) (by kernel_rfl) ?_ ?_ ?_
  ·
   refine Zo ?_
   refine et_2 (i1 := 8) (i2 := 11) (by kernel_rfl) ?_ ?_
   ·
    refine Z12 ?_
    refine Z2l ?_
    refine Z94 ?_
    refine Z5i ?_
    refine Z4x ?_
    refine Z4e ?_
    have e1 := lay_next s hi16 hi64
    unfold next16 at e1
    rw [hml] at e1
    have e8 : ∀ (a b c d : UInt32), a + b + c + d = a + c + b + d := fun a b c d => by rw [UInt32.add_assoc a b c, UInt32.add_comm b c, ← UInt32.add_assoc]
    rw [← e8] at e1
    exact Zu
   refine Z94 ?_
   refine et_2 (i1 := 8) (i2 := 13) (by kernel_rfl) ?_ ?_
   ·
    refine Z12 ?_
    refine Z5i ?_
    refine Z4x ?_
    refine Z4e ?_
    have e1 := lay_next s hi16 hi64
    unfold next16 at e1
    rw [hml] at e1
    have e8 : ∀ (a b c d : UInt32), a + b + c + d = a + c + b + d := fun a b c d => by rw [UInt32.add_assoc a b c, UInt32.add_comm b c, ← UInt32.add_assoc]
    rw [← e8] at e1
    exact Zu
   refine Z4x ?_
   refine et_2 (i1 := 8) (i2 := 20) (by kernel_rfl) ?_ ?_
   ·
    refine Z12 ?_
    refine Z4e ?_
    have e1 := lay_next s hi16 hi64
    unfold next16 at e1
    rw [hml] at e1
    have e8 : ∀ (a b c d : UInt32), a + b + c + d = a + c + b + d := fun a b c d => by rw [UInt32.add_assoc a b c, UInt32.add_comm b c, ← UInt32.add_assoc]
    rw [← e8] at e1
    exact Zu
   refine Z64 ?_
   refine et_2 (i1 := 8) (i2 := 22) (by kernel_rfl) ?_ ?_
   ·
    refine Z12 ?_
    refine Z2h ?_
    refine Z5r ?_
    have e1 := lay_next s hi16 hi64
    unfold next16 at e1
    rw [hml] at e1
    have e8 : ∀ (a b c d : UInt32), a + b + c + d = a + c + b + d := fun a b c d => by rw [UInt32.add_assoc a b c, UInt32.add_comm b c, ← UInt32.add_assoc]
    rw [← e8] at e1
    exact Zu
   refine Z59 ?_
   refine Z2i ?_
   refine Zy ?_
   refine Z12 ?_
   refine Z2e ?_
   refine Z4r ?_
   have e1 := lay_next s hi16 hi64
   unfold next16 at e1
   rw [hml] at e1
   have e8 : ∀ (a b c d : UInt32), a + b + c + d = a + c + b + d := fun a b c d => by rw [UInt32.add_assoc a b c, UInt32.add_comm b c, ← UInt32.add_assoc]
   rw [← e8] at e1
   exact Zu
  ·
   refine Zo ?_
   refine et_2 (i1 := 4) (i2 := 11) (by kernel_rfl) ?_ ?_
   ·
    refine Z12 ?_
    refine Z2l ?_
    refine Z94 ?_
    refine Z5i ?_
    refine Z4x ?_
    refine Z4e ?_
    have e1 := lay_next s hi16 hi64
    unfold next16 at e1
    rw [hml] at e1
    have e8 : ∀ (a b c d : UInt32), a + b + c + d = a + c + b + d := fun a b c d => by rw [UInt32.add_assoc a b c, UInt32.add_comm b c, ← UInt32.add_assoc]
    rw [← e8] at e1
    exact Zu
   refine Z94 ?_
   refine et_2 (i1 := 4) (i2 := 13) (by kernel_rfl) ?_ ?_
   ·
    refine Z12 ?_
    refine Z5i ?_
    refine Z4x ?_
    refine Z4e ?_
    have e1 := lay_next s hi16 hi64
    unfold next16 at e1
    rw [hml] at e1
    have e8 : ∀ (a b c d : UInt32), a + b + c + d = a + c + b + d := fun a b c d => by rw [UInt32.add_assoc a b c, UInt32.add_comm b c, ← UInt32.add_assoc]
    rw [← e8] at e1
    exact Zu
   refine Z4x ?_
   refine Z7g ?_ ?_
   ·
    refine Z12 ?_
    refine Z4e ?_
    have e1 := lay_next s hi16 hi64
    unfold next16 at e1
    rw [hml] at e1
    have e8 : ∀ (a b c d : UInt32), a + b + c + d = a + c + b + d := fun a b c d => by rw [UInt32.add_assoc a b c, UInt32.add_comm b c, ← UInt32.add_assoc]
    rw [← e8] at e1
    exact Zu
   refine Z64 ?_
   refine Z63 ?_ ?_
   ·
    refine Z12 ?_
    refine Z2h ?_
    refine Z5r ?_
    have e1 := lay_next s hi16 hi64
    unfold next16 at e1
    rw [hml] at e1
    have e8 : ∀ (a b c d : UInt32), a + b + c + d = a + c + b + d := fun a b c d => by rw [UInt32.add_assoc a b c, UInt32.add_comm b c, ← UInt32.add_assoc]
    rw [← e8] at e1
    exact Zu
   refine Z59 ?_
   refine Z2i ?_
   refine Z2g ?_
   refine Z12 ?_
   refine Z2e ?_
   refine Z4r ?_
   have e1 := lay_next s hi16 hi64
   unfold next16 at e1
   rw [hml] at e1
   have e8 : ∀ (a b c d : UInt32), a + b + c + d = a + c + b + d := fun a b c d => by rw [UInt32.add_assoc a b c, UInt32.add_comm b c, ← UInt32.add_assoc]
   rw [← e8] at e1
   exact Zu
  refine Z94 ?_
  refine et_3 (i1 := 4) (i2 := 8) (i3 := 13) (by kernel_rfl) ?_ ?_ ?_
  ·
   refine Zo ?_
   refine et_2 (i1 := 8) (i2 := 13) (by kernel_rfl) ?_ ?_
   ·
    refine Z12 ?_
    refine Z5i ?_
    refine Z4x ?_
    refine Z4e ?_
    have e1 := lay_next s hi16 hi64
    unfold next16 at e1
    rw [hml] at e1
    have e8 : ∀ (a b c d : UInt32), a + b + c + d = a + c + b + d := fun a b c d => by rw [UInt32.add_assoc a b c, UInt32.add_comm b c, ← UInt32.add_assoc]
    rw [← e8] at e1
    exact Zu
   refine Z4x ?_
   refine et_2 (i1 := 8) (i2 := 20) (by kernel_rfl) ?_ ?_
   ·
    refine Z12 ?_
    refine Z4e ?_
    have e1 := lay_next s hi16 hi64
    unfold next16 at e1
    rw [hml] at e1
    have e8 : ∀ (a b c d : UInt32), a + b + c + d = a + c + b + d := fun a b c d => by rw [UInt32.add_assoc a b c, UInt32.add_comm b c, ← UInt32.add_assoc]
    rw [← e8] at e1
    exact Zu
   refine Z64 ?_
   refine et_2 (i1 := 8) (i2 := 22) (by kernel_rfl) ?_ ?_
   ·
    refine Z12 ?_
    refine Z2h ?_
    refine Z5r ?_
    have e1 := lay_next s hi16 hi64
    unfold next16 at e1
    rw [hml] at e1
    have e8 : ∀ (a b c d : UInt32), a + b + c + d = a + c + b + d := fun a b c d => by rw [UInt32.add_assoc a b c, UInt32.add_comm b c, ← UInt32.add_assoc]
    rw [← e8] at e1
    exact Zu
   refine Z59 ?_
   refine Z2i ?_
   refine Zy ?_
   refine Z12 ?_
   refine Z2e ?_
   refine Z4r ?_
   have e1 := lay_next s hi16 hi64
   unfold next16 at e1
   rw [hml] at e1
   have e8 : ∀ (a b c d : UInt32), a + b + c + d = a + c + b + d := fun a b c d => by rw [UInt32.add_assoc a b c, UInt32.add_comm b c, ← UInt32.add_assoc]
   rw [← e8] at e1
   exact Zu
  ·
   refine Zo ?_
   refine et_2 (i1 := 4) (i2 := 13) (by kernel_rfl) ?_ ?_
   ·
    refine Z12 ?_
    refine Z5i ?_
    refine Z4x ?_
    refine Z4e ?_
    have e1 := lay_next s hi16 hi64
    unfold next16 at e1
    rw [hml] at e1
    have e8 : ∀ (a b c d : UInt32), a + b + c + d = a + c + b + d := fun a b c d => by rw [UInt32.add_assoc a b c, UInt32.add_comm b c, ← UInt32.add_assoc]
    rw [← e8] at e1
    exact Zu
   refine Z4x ?_
   refine Z7g ?_ ?_
   ·
    refine Z12 ?_
    refine Z4e ?_
    have e1 := lay_next s hi16 hi64
    unfold next16 at e1
    rw [hml] at e1
    have e8 : ∀ (a b c d : UInt32), a + b + c + d = a + c + b + d := fun a b c d => by rw [UInt32.add_assoc a b c, UInt32.add_comm b c, ← UInt32.add_assoc]
    rw [← e8] at e1
    exact Zu
   refine Z64 ?_
   refine Z63 ?_ ?_
   ·
    refine Z12 ?_
    refine Z2h ?_
    refine Z5r ?_
    have e1 := lay_next s hi16 hi64
    unfold next16 at e1
    rw [hml] at e1
    have e8 : ∀ (a b c d : UInt32), a + b + c + d = a + c + b + d := fun a b c d => by rw [UInt32.add_assoc a b c, UInt32.add_comm b c, ← UInt32.add_assoc]
    rw [← e8] at e1
    exact Zu
   refine Z59 ?_
   refine Z2i ?_
   refine Z2g ?_
   refine Z12 ?_
   refine Z2e ?_
   refine Z4r ?_
   have e1 := lay_next s hi16 hi64
   unfold next16 at e1
   rw [hml] at e1
   have e8 : ∀ (a b c d : UInt32), a + b + c + d = a + c + b + d := fun a b c d => by rw [UInt32.add_assoc a b c, UInt32.add_comm b c, ← UInt32.add_assoc]
   rw [← e8] at e1
   exact Zu
  refine Z4x ?_
  refine et_3 (i1 := 4) (i2 := 8) (i3 := 20) (by kernel_rfl) ?_ ?_ ?_
  ·
   refine Zo ?_
   refine et_2 (i1 := 8) (i2 := 20) (by kernel_rfl) ?_ ?_
   ·
    refine Z12 ?_
    refine Z4e ?_
    have e1 := lay_next s hi16 hi64
    unfold next16 at e1
    rw [hml] at e1
    have e8 : ∀ (a b c d : UInt32), a + b + c + d = a + c + b + d := fun a b c d => by rw [UInt32.add_assoc a b c, UInt32.add_comm b c, ← UInt32.add_assoc]
    rw [← e8] at e1
    exact Zu
   refine Z64 ?_
   refine et_2 (i1 := 8) (i2 := 22) (by kernel_rfl) ?_ ?_
   ·
    refine Z12 ?_
    refine Z2h ?_
    refine Z5r ?_
    have e1 := lay_next s hi16 hi64
    unfold next16 at e1
    rw [hml] at e1
    have e8 : ∀ (a b c d : UInt32), a + b + c + d = a + c + b + d := fun a b c d => by rw [UInt32.add_assoc a b c, UInt32.add_comm b c, ← UInt32.add_assoc]
    rw [← e8] at e1
    exact Zu
   refine Z59 ?_
   refine Z2i ?_
   refine Zy ?_
   refine Z12 ?_
   refine Z2e ?_
   refine Z4r ?_
   have e1 := lay_next s hi16 hi64
   unfold next16 at e1
   rw [hml] at e1
   have e8 : ∀ (a b c d : UInt32), a + b + c + d = a + c + b + d := fun a b c d => by rw [UInt32.add_assoc a b c, UInt32.add_comm b c, ← UInt32.add_assoc]
   rw [← e8] at e1
   exact Zu
  ·
   refine Zo ?_
   refine Z7g ?_ ?_
   ·
    refine Z12 ?_
    refine Z4e ?_
    have e1 := lay_next s hi16 hi64
    unfold next16 at e1
    rw [hml] at e1
    have e8 : ∀ (a b c d : UInt32), a + b + c + d = a + c + b + d := fun a b c d => by rw [UInt32.add_assoc a b c, UInt32.add_comm b c, ← UInt32.add_assoc]
    rw [← e8] at e1
    exact Zu
   refine Z64 ?_
   refine Z63 ?_ ?_
   ·
    refine Z12 ?_
    refine Z2h ?_
    refine Z5r ?_
    have e1 := lay_next s hi16 hi64
    unfold next16 at e1
    rw [hml] at e1
    have e8 : ∀ (a b c d : UInt32), a + b + c + d = a + c + b + d := fun a b c d => by rw [UInt32.add_assoc a b c, UInt32.add_comm b c, ← UInt32.add_assoc]
    rw [← e8] at e1
    exact Zu
   refine Z59 ?_
   refine Z2i ?_
   refine Z2g ?_
   refine Z12 ?_
   refine Z2e ?_
   refine Z4r ?_
   have e1 := lay_next s hi16 hi64
   unfold next16 at e1
   rw [hml] at e1
   have e8 : ∀ (a b c d : UInt32), a + b + c + d = a + c + b + d := fun a b c d => by rw [UInt32.add_assoc a b c, UInt32.add_comm b c, ← UInt32.add_assoc]
   rw [← e8] at e1
   exact Zu
  refine Z64 ?_
  refine et_3 (i1 := 4) (i2 := 8) (i3 := 22) (by kernel_rfl) ?_ ?_ ?_
  ·
   refine Zo ?_
   refine et_2 (i1 := 8) (i2 := 22) (by kernel_rfl) ?_ ?_
   ·
    refine Z12 ?_
    refine Z2h ?_
    refine Z5r ?_
    have e1 := lay_next s hi16 hi64
    unfold next16 at e1
    rw [hml] at e1
    have e8 : ∀ (a b c d : UInt32), a + b + c + d = a + c + b + d := fun a b c d => by rw [UInt32.add_assoc a b c, UInt32.add_comm b c, ← UInt32.add_assoc]
    rw [← e8] at e1
    exact Zu
   refine Z59 ?_
   refine Z2i ?_
   refine Zy ?_
   refine Z12 ?_
   refine Z2e ?_
   refine Z4r ?_
   have e1 := lay_next s hi16 hi64
   unfold next16 at e1
   rw [hml] at e1
   have e8 : ∀ (a b c d : UInt32), a + b + c + d = a + c + b + d := fun a b c d => by rw [UInt32.add_assoc a b c, UInt32.add_comm b c, ← UInt32.add_assoc]
   rw [← e8] at e1
   exact Zu
  ·
   refine Zo ?_
   refine Z63 ?_ ?_
   ·
    refine Z12 ?_
    refine Z2h ?_
    refine Z5r ?_
    have e1 := lay_next s hi16 hi64
    unfold next16 at e1
    rw [hml] at e1
    have e8 : ∀ (a b c d : UInt32), a + b + c + d = a + c + b + d := fun a b c d => by rw [UInt32.add_assoc a b c, UInt32.add_comm b c, ← UInt32.add_assoc]
    rw [← e8] at e1
    exact Zu
   refine Z59 ?_
   refine Z2i ?_
   refine Z2g ?_
   refine Z12 ?_
   refine Z2e ?_
   refine Z4r ?_
   have e1 := lay_next s hi16 hi64
   unfold next16 at e1
   rw [hml] at e1
   have e8 : ∀ (a b c d : UInt32), a + b + c + d = a + c + b + d := fun a b c d => by rw [UInt32.add_assoc a b c, UInt32.add_comm b c, ← UInt32.add_assoc]
   rw [← e8] at e1
   exact Zu
  refine Z59 ?_
  refine Z2i ?_
  refine et_2 (i1 := 4) (i2 := 8) (by kernel_rfl) ?_ ?_
  ·
   refine Zo ?_
   refine Zy ?_
   refine Z12 ?_
   refine Z2e ?_
   refine Z4r ?_
   have e1 := lay_next s hi16 hi64
   unfold next16 at e1
   rw [hml] at e1
   have e8 : ∀ (a b c d : UInt32), a + b + c + d = a + c + b + d := fun a b c d => by rw [UInt32.add_assoc a b c, UInt32.add_comm b c, ← UInt32.add_assoc]
   rw [← e8] at e1
   exact Zu
  refine Zo ?_
  refine Z2g ?_
  refine Z12 ?_
  refine Z2e ?_
  refine Z4r ?_
  have e1 := lay_next s hi16 hi64
  unfold next16 at e1
  rw [hml] at e1
  have e8 : ∀ (a b c d : UInt32), a + b + c + d = a + c + b + d := fun a b c d => by rw [UInt32.add_assoc a b c, UInt32.add_comm b c, ← UInt32.add_assoc]
  rw [← e8] at e1
  exact Zu
 have hp1 := hb1
 (try simp only [bn] at hp1)
 obtain rfl : i = 64 := by omega
 rw [List.take_of_length_le (show (layM s).length ≤ 64 by rw [layM_len]; exact Nat.le_refl _), fillA_64 (layM_len s)]
 refine Z1e ?_
 refine Z1u ?_
 refine rg_q (wn_none rfl) (op_aidx0 0 a1_164 rfl rfl rfl (by omega)) rfl rfl ?_
 refine Z65 ?_
 refine rg_q (wn_none rfl) (op_aidx0 1 a1_164 rfl rfl rfl (by omega)) rfl rfl ?_
 refine Z65 ?_
 refine rg_q (wn_none rfl) (op_aidx0 2 a1_164 rfl rfl rfl (by omega)) rfl rfl ?_
 refine Z65 ?_
 refine rg_q (wn_none rfl) (op_aidx0 3 a1_164 rfl rfl rfl (by omega)) rfl rfl ?_
 refine Z65 ?_
 refine rg_q (wn_none rfl) (op_aidx0 4 a1_164 rfl rfl rfl (by omega)) rfl rfl ?_
 refine Z65 ?_
 refine rg_q (wn_none rfl) (op_aidx0 5 a1_164 rfl rfl rfl (by omega)) rfl rfl ?_
 refine Z65 ?_
 refine rg_q (wn_none rfl) (op_aidx0 6 a1_164 rfl rfl rfl (by omega)) rfl rfl ?_
 refine Z65 ?_
 refine rg_q (wn_none rfl) (op_aidx0 7 a1_164 rfl rfl rfl (by omega)) rfl rfl ?_
 refine Z65 ?_
 refine Z2w ?_
 refine Z2w ?_
 refine Z2w ?_
 refine Z2w ?_
 refine Z2w ?_
 refine Z2w ?_
 refine Z2w ?_
 refine Z3q ?_
 refine Zf ?_
 refine Z48 ?_
 refine cd_loop2 (α := Nat) [(12, 22), (100, 162)] (fun x => [(12, .int .u32 ((rnds (layM s) h.1 x).getD 0 0).toNat), (13, .int .u32 ((rnds (layM s) h.1 x).getD 1 0).toNat), (14, .int .u32 ((rnds (layM s) h.1 x).getD 2 0).toNat), (15, .int .u32 ((rnds (layM s) h.1 x).getD 3 0).toNat), (16, .int .u32 ((rnds (layM s) h.1 x).getD 4 0).toNat), (17, .int .u32 ((rnds (layM s) h.1 x).getD 5 0).toNat), (18, .int .u32 ((rnds (layM s) h.1 x).getD 6 0).toNat), (19, .int .u32 ((rnds (layM s) h.1 x).getD 7 0).toNat), (100, .int .i64 (x : Int))]) (fun x => Blk bx4 (.cells (wC (layM s)).toArray 168 (0, 0)) :: Blk bx3 (.cells (wC (List.replicate 8 0)).toArray 164 (0, 0)) :: Blk bx2 (.cells (wC K64).toArray 168 (0, 0)) :: Blk bx1 (.cells (w8C h).toArray 164 (0, 0)) :: l) (fun x => x ≤ 64) (fun x => 64 - x) 0 (Nat.zero_le _) ⟨rfl, rfl, rfl, rfl, rfl, rfl, rfl, rfl, rfl, trivial⟩ (fun _ s => s) ?_
 rintro j hj f; (try dsimp only at hj ⊢)
 refine Zx ?_
 refine cd_cond rfl (fun hb4 => ?_) (fun hb4 => ?_)
 ·have hp4 := hb4
  (try simp only [bn] at hp4)
  have hj64 : j < 64 := by omega
  obtain ⟨va, vb, vc, vd, ve, vf, vg, vh, hv⟩ := list_len8 (rnds_len (W := layM s) h.2 j)
  rw [hv]
  refine Z2t ?_
  refine Z8 ?_
  refine Z7 ?_
  refine cd_drawe (M := []) mx [2, 4, 7] ?_
  refine Z6h ?_
  refine Z6t ?_
  refine e_q 3 rfl (wn_none rfl) (op_move (v := .int _ _) rfl) ?_
  refine e_q 6 rfl (wn_none rfl) (op_move (v := .int _ _) rfl) ?_
  refine e_q 10 rfl (wn_none rfl) (op_move (v := .int _ _) rfl) ?_
  refine e_q 11 rfl (wn_none rfl) (op_move (v := .int _ _) rfl) ?_
  refine e_q 12 rfl (wn_none rfl) (op_and32 _ _ rfl rfl) ?_
  refine e_q 13 rfl (wn_none rfl) (op_move (v := .int _ _) rfl) ?_
  refine e_q 14 rfl (wn_none rfl) (op_not32 _ rfl) ?_
  refine e_q 15 rfl (wn_none rfl) (op_move (v := .int _ _) rfl) ?_
  refine e_q 16 rfl (wn_none rfl) (op_and32 _ _ rfl rfl) ?_
  refine e_q 17 rfl (wn_none rfl) (op_xor32 _ _ rfl rfl) ?_
  refine e_q 19 rfl (wn_none rfl) (op_move (v := .int _ _) rfl) ?_
  refine e_q 20 rfl (wn_none rfl) (op_aidx0 _ a1_168 rfl rfl rfl (by omega)) ?_
  refine e_q 21 rfl (wn_none rfl) (op_ld 2 sc_163 rfl rfl (wC_gd (by rw [K64_len]; omega))) ?_
  refine e_q 23 rfl (wn_none rfl) (op_move (v := .int _ _) rfl) ?_
  refine e_q 24 rfl (wn_none rfl) (op_aidx0 _ a1_168 rfl rfl rfl (by omega)) ?_
  refine e_q 25 rfl (wn_none rfl) (op_ld 0 sc_163 rfl rfl (wC_gd (by rw [layM_len]; omega))) ?_
  refine Z8t ?_
  refine ei_i rfl rfl (wn_none rfl) (os_call cb_114 rfl (fun w s => right_calls (k := 6) _  s (by decide) (by decide))) rfl ?_; rintro _ _ ⟨rfl, rfl⟩; refine ⟨[], rfl, ?_⟩
  refine Z2g ?_
  refine ei_i rfl rfl (wn_none rfl) (os_call cb_114 rfl (fun w s => right_calls (k := 11) _  s (by decide) (by decide))) rfl ?_; rintro _ _ ⟨rfl, rfl⟩; refine ⟨[], rfl, ?_⟩
  refine e_q 5 rfl (wn_none rfl) (op_xor32 _ _ rfl rfl) ?_
  refine Zt ?_
  refine ei_i rfl rfl (wn_none rfl) (os_call cb_114 rfl (fun w s => right_calls (k := 25) _  s (by decide) (by decide))) rfl ?_; rintro _ _ ⟨rfl, rfl⟩; refine ⟨[], rfl, ?_⟩
  refine e_q 8 rfl (wn_none rfl) (op_xor32 _ _ rfl rfl) ?_
  refine e_q 9 rfl (wn_none rfl) (op_add32 _ _ rfl rfl) ?_
  refine Z2h ?_
  refine e_q 22 rfl (wn_none rfl) (op_add32 _ _ rfl rfl) ?_
  refine e_q 26 rfl (wn_none rfl) (op_add32 _ _ rfl rfl) ?_
  refine e_q 27 rfl (wn_none rfl) (op_assign (v := .int _ _) rfl) ?_
  refine Z16 ?_
  refine Z18 ?_
  refine oi (os_call cb_114 rfl (fun w s => right_calls (k := 2) _  s (by decide) (by decide))) ?_; rintro _ _ ⟨rfl, rfl⟩
  refine Z4 ?_
  refine oi (os_call cb_114 rfl (fun w s => right_calls (k := 13) _  s (by decide) (by decide))) ?_; rintro _ _ ⟨rfl, rfl⟩
  refine oq (op_xor32 _ _ rfl rfl) ?_
  refine Z4 ?_
  refine oi (os_call cb_114 rfl (fun w s => right_calls (k := 22) _  s (by decide) (by decide))) ?_; rintro _ _ ⟨rfl, rfl⟩
  refine oq (op_xor32 _ _ rfl rfl) ?_
  refine Z2u ?_
  refine oq (op_and32 _ _ rfl rfl) ?_
  refine Z2u ?_
  refine oq (op_and32 _ _ rfl rfl) ?_
  refine oq (op_xor32 _ _ rfl rfl) ?_
  refine Z2u ?_
  refine oq (op_and32 _ _ rfl rfl) ?_
  refine oq (op_xor32 _ _ rfl rfl) ?_
  refine oq (op_add32 _ _ rfl rfl) ?_
  refine Z8 ?_
  refine Z1b ?_
  refine Z2u ?_
  refine Z2u ?_
  refine Z4w ?_
  refine Z2u ?_
  refine Z2u ?_
  refine Z4w ?_
  refine Zq ?_
  refine Zq ?_
  refine Zq ?_
  refine Zq ?_
  refine Zq ?_
  refine Zq ?_
  refine Zq ?_
  refine Z2s ?_
  refine Z5o ?_
  have e1 : rnds (layM s) h.1 (j + 1) = rnd (K64.getD j 0) ((layM s).getD j 0) [va, vb, vc, vd, ve, vf, vg, vh] := by rw [rnds, hv]
  have g0 : vh + (rotr ve 6 ^^^ rotr ve 11 ^^^ rotr ve 25) + (ve &&& vf ^^^ ~~~ve &&& vg) + K64.getD j 0 + (layM s).getD j 0 + ((rotr va 2 ^^^ rotr va 13 ^^^ rotr va 22) + (va &&& vb ^^^ va &&& vc ^^^ vb &&& vc)) = (rnds (layM s) h.1 (j + 1)).getD 0 0 := by rw [e1]; rfl
  have g1 : va = (rnds (layM s) h.1 (j + 1)).getD 1 0 := by rw [e1]; rfl
  have g2 : vb = (rnds (layM s) h.1 (j + 1)).getD 2 0 := by rw [e1]; rfl
  have g3 : vc = (rnds (layM s) h.1 (j + 1)).getD 3 0 := by rw [e1]; rfl
  have g4 : vd + (vh + (rotr ve 6 ^^^ rotr ve 11 ^^^ rotr ve 25) + (ve &&& vf ^^^ ~~~ve &&& vg) + K64.getD j 0 + (layM s).getD j 0) = (rnds (layM s) h.1 (j + 1)).getD 4 0 := by rw [e1]; rfl
  have g5 : ve = (rnds (layM s) h.1 (j + 1)).getD 5 0 := by rw [e1]; rfl
  have g6 : vf = (rnds (layM s) h.1 (j + 1)).getD 6 0 := by rw [e1]; rfl
  have g7 : vg = (rnds (layM s) h.1 (j + 1)).getD 7 0 := by rw [e1]; rfl
  refine px_loop2 (j + 1) (by omega) (by (try dsimp only); omega) ⟨congrArg (fun q : UInt32 => Value.int .u32 (q.toNat : Int)) g0, congrArg (fun q : UInt32 => Value.int .u32 (q.toNat : Int)) g1, congrArg (fun q : UInt32 => Value.int .u32 (q.toNat : Int)) g2, congrArg (fun q : UInt32 => Value.int .u32 (q.toNat : Int)) g3, congrArg (fun q : UInt32 => Value.int .u32 (q.toNat : Int)) g4, congrArg (fun q : UInt32 => Value.int .u32 (q.toNat : Int)) g5, congrArg (fun q : UInt32 => Value.int .u32 (q.toNat : Int)) g6, congrArg (fun q : UInt32 => Value.int .u32 (q.toNat : Int)) g7, congrArg (Value.int .i64) (by simp), trivial⟩ ?_ (fun _ s => s)
  exact Z2
 have hp4 := hb4
 (try simp only [bn] at hp4)
 obtain rfl : j = 64 := by omega
 generalize hV : rnds (layM s) h.1 64 = V
 refine Z2d ?_
 refine oq (op_aidx0 0 a1_164 rfl rfl rfl (by omega)) ?_
 refine Z66 ?_
 refine Z4w ?_
 refine oq (op_aidx0 1 a1_164 rfl rfl rfl (by omega)) ?_
 refine Z66 ?_
 refine Z4w ?_
 refine oq (op_aidx0 2 a1_164 rfl rfl rfl (by omega)) ?_
 refine Z66 ?_
 refine Z4w ?_
 refine oq (op_aidx0 3 a1_164 rfl rfl rfl (by omega)) ?_
 refine Z66 ?_
 refine Z4w ?_
 refine oq (op_aidx0 4 a1_164 rfl rfl rfl (by omega)) ?_
 refine Z66 ?_
 refine Z4w ?_
 refine oq (op_aidx0 5 a1_164 rfl rfl rfl (by omega)) ?_
 refine Z66 ?_
 refine Z4w ?_
 refine oq (op_aidx0 6 a1_164 rfl rfl rfl (by omega)) ?_
 refine Z66 ?_
 refine Z4w ?_
 refine oq (op_aidx0 7 a1_164 rfl rfl rfl (by omega)) ?_
 refine Z66 ?_
 refine Z4w ?_
 refine oq (op_builda (L := wC [h.1.getD 0 0 + V.getD 0 0, h.1.getD 1 0 + V.getD 1 0, h.1.getD 2 0 + V.getD 2 0, h.1.getD 3 0 + V.getD 3 0, h.1.getD 4 0 + V.getD 4 0, h.1.getD 5 0 + V.getD 5 0, h.1.getD 6 0 + V.getD 6 0, h.1.getD 7 0 + V.getD 7 0]) (vs := [(0, .int _ _), (1, .int _ _), (2, .int _ _), (3, .int _ _), (4, .int _ _), (5, .int _ _), (6, .int _ _), (7, .int _ _)]) ba_164 rfl (fill8_ok _ _ _ _ _ _ _ _)) ?_
 refine Z9 ?_
 refine oN (os_storew (wC _) ag_164 rfl rfl (by rw [wC_len]; rfl) (wC_one _) (by simp [wC_len, w8C_len]) (Free.zero _)) ?_; rintro _ _ ⟨rfl, rfl⟩
 refine Z1s ?_
 exact px_rv1 rfl (rv_cella 0 ag_164 rfl rfl (List.take_of_length_le (by simp [wC_len])) (by simp [wC_len])) (fun _ s => ((((s.del 3).del 2).del 1).del 0)) ⟨congrArg (fun q : List Value => Value.agg q.toArray) (blk8_eq h s hV), rfl⟩
end Go.SL

set_option linter.unusedVariables false
set_option linter.unusedSimpArgs false
namespace Go.SL
def full (k : List UInt8) : List UInt8 := k ++ List.replicate (64 - k.length) 0
def mixK (K : List UInt8) (x : UInt8) (i : Nat) : List UInt8 := (List.range 64).map fun q => if q < i then K.getD q 0 ^^^ x else K.getD q 0
def padK (k : List UInt8) (x : UInt8) : List UInt8 := mixK (full k) x 64
def tagOf (r : Root) : Tag := ⟨r.1.take 16, by rw [List.length_take, r.2]; rfl⟩
def keyM (k : List UInt8) : List UInt8 := if 64 < k.length then (shaM k).1 else k
def macM (k m : List UInt8) : Tag := tagOf (shaM (padK (keyM k) 92 ++ (shaM (padK (keyM k) 54 ++ m)).1))
def mixT (a b : Tag) (i : Nat) : List UInt8 := (List.range 16).map fun q => if q < i then a.1.getD q 0 ^^^ b.1.getD q 0 else a.1.getD q 0
theorem mixT_len (a b : Tag) (i : Nat) : (mixT a b i).length = 16 := by simp [mixT]
def xorT (a b : Tag) : Tag := ⟨mixT a b 16, mixT_len a b 16⟩
def joinM (l : List Tag) : Tag := l.foldl xorT Tag.zero
def colT (l : List Tag) (i k : Nat) : List UInt8 := (List.range 16).map fun q => if q < i then (joinM l).1.getD q 0 else if q = i then (joinM (l.take k)).1.getD q 0 else 0
def tagP (r : Root) (i : Nat) : List UInt8 := (List.range 16).map fun q => if q < i then r.1.getD q 0 else 0
end Go.SL

set_option linter.unusedVariables false
set_option linter.unusedSimpArgs false
namespace Go.SL
open Go.Proofs

set_option maxRecDepth 100000 in
set_option maxHeartbeats 1000000 in
theorem ROf_calls {w0 w : World} {l : List HProp} (s : List UInt8) (hs : Sat w0 w (l)) (hs1 : s.length ≤ 1000000) :
  Calls Try.prog 86 #[.string (B s)] w (Ret w0 fun v l' => v = .agg (rootC (shaM s)).toArray ∧ l' = l) := by
 have hz : (zpad (s.length % 64)) = (119 - s.length % 64) % 64 := rfl
 have htm := textM_len s
 have hp8 : (prm (Int.toNat 8)).length = 8 := prm_len (by decide)
 have hp64 : (prm (Int.toNat 64)).length = 64 := prm_len (by decide)
 refine calls_enter Try.func86 rfl rfl rfl hs ?_
 refine Z0 ?_
 refine Z1w ?_; intro bx1
 refine Z19 ?_
 refine Z4n ?_
 refine oq (op_sadd rfl rfl (by first | omega | (simp; omega))) ?_
 refine Z45 ?_
 refine Z39 ?_
 refine cd_block ?_
 refine cd_loop2 (α := Nat) [(3, 3), (17, 22)] (fun x => [(3, .string (B (s ++ [128] ++ List.replicate x 0)))]) (fun _ => _) (fun x => x ≤ (zpad (s.length % 64))) (fun x => (zpad (s.length % 64)) - x) 0 (Nat.zero_le _) ⟨congrArg (fun q => Value.string (B q)) (by simp), trivial⟩ (fun _ s => s) ?_
 rintro k hk f; (try dsimp only at hk ⊢)
 have hlk : (s ++ [128] ++ List.replicate k 0).length = s.length + 1 + k := by simp; omega
 refine Z15 ?_
 refine Z4n ?_
 refine oq (op_len_string Try.underlying9 rfl) ?_
 refine oq (op_rem rfl rfl (by omega) (by omega)) ?_
 refine Z5c ?_
 refine cd_cond rfl (fun hb1 => ?_) (fun hb1 => ?_)
 ·have hp1 := hb1
  (try simp only [bn] at hp1)
  have hkz : k < (zpad (s.length % 64)) := by omega
  refine Za ?_
  refine cd_block ?_
  refine Z1b ?_
  refine Z4n ?_
  refine oq (op_sadd rfl rfl (by first | omega | (simp; omega))) ?_
  refine Z45 ?_
  refine ol_nil ?_
  refine px_blockN ?_
  have e1 : s ++ [128] ++ List.replicate (k + 1) 0 = s ++ [128] ++ List.replicate k 0 ++ [0] := by rw [List.replicate_succ']; simp
  refine px_loop2 (k + 1) (by omega) (by (try dsimp only); omega) ⟨congrArg (fun q => Value.string (B q)) e1.symm, trivial⟩ ?_ (fun _ s => s)
  exact Z2
 have hp1 := hb1
 (try simp only [bn] at hp1)
 obtain rfl : k = (zpad (s.length % 64)) := by omega
 refine Z2d ?_
 refine Z4n ?_
 refine oq (op_len_string Try.underlying9 rfl) ?_
 refine oq (op_conv64 Try.underlying142 (by rw [Try.underlying3]; rfl) rfl (by omega)) ?_
 refine oq (op_muln (C := 8) rfl rfl (by omega)) ?_
 refine Z8 ?_
 refine Z15 ?_
 refine Z3j ?_
 refine cd_loop2 (α := Nat) [(3, 3), (5, 5), (27, 40)] (fun x => [(3, .string (B (s ++ [128] ++ List.replicate (zpad (s.length % 64)) 0 ++ be64 (s.length * 8) x))), (5, .int .i64 (7 - (x : Int)))]) (fun _ => _) (fun x => x ≤ 8) (fun x => 8 - x) 0 (Nat.zero_le _) ⟨congrArg (fun q => Value.string (B q)) (by simp [be64]), congrArg (Value.int .i64) (by simp), trivial⟩ (fun _ s => s) ?_
 rintro i hi f; (try dsimp only at hi ⊢)
 have hl8 : (s ++ [128] ++ List.replicate (zpad (s.length % 64)) 0 ++ be64 (s.length * 8) i).length = s.length + 1 + (zpad (s.length % 64)) + i := by simp [be64_len]; omega
 refine Zf ?_
 refine Z3s ?_
 refine cd_cond rfl (fun hb2 => ?_) (fun hb2 => ?_)
 ·have hp2 := hb2
  (try simp only [bn] at hp2)
  have hi8 : i < 8 := by omega
  refine Z3g ?_
  refine Z1b ?_
  refine Z4n ?_
  refine Z2u ?_
  refine Z7p ?_
  refine oq (op_conv64m (56 - 8 * i) Try.underlying74 (by rw [Try.underlying3]; rfl) rfl (by omega) (by omega)) ?_
  refine oq (op_shr_nat (m := 56 - 8 * i) rfl rfl (by show 56 - 8 * i ≤ 64; omega)) ?_
  refine oq (op_conv8 Try.underlying5 (by rw [Try.underlying142]; rfl) rfl) ?_
  refine oi (os_bslice (E := encU8) [_] (ys := [_]) sB_162 zv_5 rfl rfl rfl rfl (by decide)) ?_; rintro _ _ ⟨ao1, rfl, rfl⟩
  refine oq (op_b2s sB_162 Try.underlying5 Try.underlying9 rfl (rds_row 0 rfl rfl) rfl) ?_
  refine oq (op_sadd rfl rfl (by rw [hl8]; simp; omega)) ?_
  refine Z45 ?_
  refine ol_nil ?_
  refine Z4p ?_
  refine Z2m ?_
  refine Z2s ?_
  have e1 : s ++ [128] ++ List.replicate (zpad (s.length % 64)) 0 ++ be64 (s.length * 8) (i + 1) = s ++ [128] ++ List.replicate (zpad (s.length % 64)) 0 ++ be64 (s.length * 8) i ++ [UInt8.ofNat (s.length * 8 / 2 ^ (56 - 8 * i))] := by rw [be64_succ]; simp only [List.append_assoc]
  refine px_loop2 (i + 1) (by omega) (by (try dsimp only); omega) ⟨congrArg (fun q => Value.string (B q)) e1.symm, congrArg (Value.int .i64) (by omega), trivial⟩ ?_ (fun _ s => (s.del 0))
  exact Z2
 have hp2 := hb2
 (try simp only [bn] at hp2)
 obtain rfl : i = 8 := by omega
 have htl : (textM s).length = s.length + 1 + (zpad (s.length % 64)) + 8 := by unfold textM; simp [be64_len]; omega
 refine Z2d ?_
 refine Zb0 ?_; intro bx2
 refine Z4c ?_
 refine oi (os_call cb_99 rfl (fun w s => primes_calls (n := 8)  s (by decide) (by decide))) ?_; rintro _ _ ⟨po1, pc1, rfl, rfl⟩
 refine oq (op_len_slice Try.underlying165 rfl) ?_
 refine Z1l ?_
 refine cd_loop2 (α := Nat) [(7, 8), (43, 52)] (fun x => [(43, .int .i64 (x : Int))]) (fun x => Blk bx2 (.cells (wC (fillN 8 (H0.take x))).toArray 164 (0, 0)) :: Row 142 encU64 (.slice po1 (prm (Int.toNat 8)).length pc1) (prm (Int.toNat 8)) :: Blk bx1 (.cells (rootC Root.zero).toArray 24 (0, 0)) :: l) (fun x => x ≤ 8) (fun x => 8 - x) 0 (Nat.zero_le _) ⟨rfl, trivial⟩ (fun _ s => (((s.pull 2).pull 1).pull 2)) ?_
 rintro i hi f; (try dsimp only at hi ⊢)
 refine Zx ?_
 refine cd_cond rfl (fun hb3 => ?_) (fun hb3 => ?_)
 ·have hp3 := hb3
  (try simp only [bn] at hp3)
  have hi8 : i < 8 := by omega
  have hroot := root8_at (i := i) (show i < (prm 8).length by rw [prm_len (by decide)]; omega)
  refine Z2t ?_
  refine oq (op_index _ sB_165 rfl rfl rfl (rds_row 1 rfl rfl) rfl (by omega)) ?_
  refine oq (op_ldw sc_142 (rds_row 1 rfl rfl) rfl (by omega) rfl) ?_
  refine Zq ?_
  refine Z8 ?_
  refine Z1b ?_
  refine Z2u ?_
  refine oi (os_call cb_100 rfl (fun w s => root_calls (power := 2) _  s )) ?_; rintro _ _ ⟨rfl, rfl⟩
  refine oq (op_aidx0 i a1_164 rfl rfl rfl (by omega)) ?_
  refine oN (os_store (v := .int _ _) sc_163 rfl rfl rfl (Nat.ble_eq_true_of_le (show i + 1 ≤ _ by rw [List.size_toArray, wC_len, fillN_len (by rw [List.length_take]; show min i 8 ≤ 8; omega)]; omega)) (Free.zero _) (fillN_st rfl hi8 hroot)) ?_; rintro _ _ ⟨rfl, rfl⟩
  refine Z35 ?_
  refine px_loop2 (i + 1) (by omega) (by (try dsimp only); omega) ⟨congrArg (Value.int .i64) (by simp), trivial⟩ ?_ (fun _ s => s)
  exact Z2
 have hp3 := hb3
 (try simp only [bn] at hp3)
 obtain rfl : i = 8 := by omega
 rw [fill8]
 refine Z2d ?_
 refine Z8y ?_; intro bx3
 refine Z4c ?_
 refine oi (os_call cb_99 rfl (fun w s => primes_calls (n := 64)  s (by decide) (by decide))) ?_; rintro _ _ ⟨po3, pc3, rfl, rfl⟩
 refine oq (op_len_slice Try.underlying165 rfl) ?_
 refine Z1l ?_
 refine cd_loop2 (α := Nat) [(10, 11), (55, 64)] (fun x => [(55, .int .i64 (x : Int))]) (fun x => Blk bx3 (.cells (wC (fillN 64 (K64.take x))).toArray 168 (0, 0)) :: Row 142 encU64 (.slice po3 (prm (Int.toNat 64)).length pc3) (prm (Int.toNat 64)) :: Blk bx2 (.cells (wC H0).toArray 164 (0, 0)) :: Blk bx1 (.cells (rootC Root.zero).toArray 24 (0, 0)) :: l) (fun x => x ≤ 64) (fun x => 64 - x) 0 (Nat.zero_le _) ⟨rfl, trivial⟩ (fun _ s => (((((s.del 3).pull 3).pull 3).pull 2).pull 3)) ?_
 rintro i hi f; (try dsimp only at hi ⊢)
 refine Zx ?_
 refine cd_cond rfl (fun hb4 => ?_) (fun hb4 => ?_)
 ·have hp4 := hb4
  (try simp only [bn] at hp4)
  have hi64 : i < 64 := by omega
  have hroot := root64_at (i := i) (show i < (prm 64).length by rw [prm_len (by decide)]; omega)
  refine Z2t ?_
  refine oq (op_index _ sB_165 rfl rfl rfl (rds_row 1 rfl rfl) rfl (by omega)) ?_
  refine oq (op_ldw sc_142 (rds_row 1 rfl rfl) rfl (by omega) rfl) ?_
  refine Zq ?_
  refine Z8 ?_
  refine Z1b ?_
  refine Z2u ?_
  refine oi (os_call cb_100 rfl (fun w s => root_calls (power := 3) _  s )) ?_; rintro _ _ ⟨rfl, rfl⟩
  refine oq (op_aidx0 i a1_168 rfl rfl rfl (by omega)) ?_
  refine oN (os_store (v := .int _ _) sc_163 rfl rfl rfl (Nat.ble_eq_true_of_le (show i + 1 ≤ _ by rw [List.size_toArray, wC_len, fillN_len (by rw [List.length_take, K64_len]; omega)]; omega)) (Free.zero _) (fillN_st K64_len hi64 hroot)) ?_; rintro _ _ ⟨rfl, rfl⟩
  refine Z35 ?_
  refine px_loop2 (i + 1) (by omega) (by (try dsimp only); omega) ⟨congrArg (Value.int .i64) (by simp), trivial⟩ ?_ (fun _ s => s)
  exact Z2
 have hp4 := hb4
 (try simp only [bn] at hp4)
 obtain rfl : i = 64 := by omega
 rw [fill64]
 refine Z1e ?_
 refine Z15 ?_
 refine Z3j ?_
 refine cd_loop2 (α := Nat) [(12, 12), (65, 78)] (fun x => [(12, .int .i64 ((64 * x : Nat) : Int))]) (fun x => Blk bx2 (.cells (w8C (run8 x H8 (textM s))).toArray 164 (0, 0)) :: Blk bx3 (.cells (wC K64).toArray 168 (0, 0)) :: Blk bx1 (.cells (rootC Root.zero).toArray 24 (0, 0)) :: l) (fun x => 64 * x ≤ (textM s).length) (fun x => (textM s).length - 64 * x) 0 (Nat.zero_le _) ⟨rfl, trivial⟩ (fun _ s => ((((s.del 1).pull 2).pull 1).pull 2)) ?_
 rintro i hi f; (try dsimp only at hi ⊢)
 refine Zf ?_
 refine Z4n ?_
 refine oq (op_len_string Try.underlying9 rfl) ?_
 refine Z3u ?_
 refine cd_cond rfl (fun hb5 => ?_) (fun hb5 => ?_)
 ·have hp5 := hb5
  (try simp only [bn] at hp5)
  have h64 : 64 * i + 64 ≤ (textM s).length := by omega
  refine Z3g ?_
  refine cd_drawt (M := []) mx [7] 8 (by kernel_rfl) rfl rfl ?_
  dsimp only [List.take_succ_cons, List.take_zero, List.drop_succ_cons, List.drop_zero]
  refine rg_q (wn_none rfl) (op_lda  0 ag_164 rfl rfl (w8C_take' _) (by simp [w8C_len])) rfl rfl ?_
  refine rg_q (wn_none rfl) (op_lda  1 ag_168 rfl rfl (show ((wC K64).toArray.toList.drop 0).take 64 = wC K64 from List.take_of_length_le (by show (wC K64).length ≤ 64; rw [wC_len, K64_len]; exact Nat.le_refl _)) (by simp [wC_len, K64_len])) rfl rfl ?_
  refine rg_q (wn_none rfl) (op_move (v := .string _) rfl) rfl rfl ?_
  refine Ze ?_
  refine Ze ?_
  refine Z6y ?_
  refine rg_q (wn_none rfl) (op_sslice (64 * i) (64 * i + 64) Try.underlying9 rfl rfl rfl rfl (by omega) (by omega) (by omega)) rfl rfl ?_
  refine rg_i (wn_none rfl) (os_call cb_101 rfl (fun w s => block_calls _ _  s (by rw [List.length_drop, List.length_take]; omega))) rfl rfl ?_; rintro _ _ ⟨rfl, rfl⟩; refine ⟨[], rfl, ?_⟩
  refine rg_tail0 ?_
  refine oN (os_storew (wC _) ag_164 rfl rfl (by rw [wC_len]; exact (blk8 _ _).2) (wC_one _) (by simp [wC_len, w8C_len]) (Free.zero _)) ?_; rintro _ _ ⟨rfl, rfl⟩
  refine ol_nil ?_
  refine Z6n ?_
  have e1 : run8 (i + 1) H8 (textM s) = blk8 (run8 i H8 (textM s)) (((textM s).take (64 * i + 64)).drop (64 * i)) := by rw [run8_last, List.drop_take, Nat.add_sub_cancel_left]
  refine px_loop2 (i + 1) (by omega) (by (try dsimp only); omega) ⟨congrArg (Value.int .i64) (by omega), trivial⟩ ?_ (fun _ s => (by (try dsimp only); rw [e1]; exact s))
  exact Z2
 have hp5 := hb5
 (try simp only [bn] at hp5)
 have hie : i = (textM s).length / 64 := by omega
 subst hie
 refine Z2d ?_
 refine Z1w ?_; intro bx4
 refine Z1 ?_
 refine Zf ?_
 refine Z48 ?_
 refine cd_loop2 (α := Nat) [(14, 14), (79, 95)] (fun x => [(79, .int .i64 (x : Int))]) (fun x => Blk bx4 (.cells (rootC (outP (run8 ((textM s).length / 64) H8 (textM s)) x)).toArray 24 (0, 0)) :: Blk bx2 (.cells (w8C (run8 ((textM s).length / 64) H8 (textM s))).toArray 164 (0, 0)) :: Blk bx1 (.cells (rootC Root.zero).toArray 24 (0, 0)) :: l) (fun x => x ≤ 32) (fun x => 32 - x) 0 (Nat.zero_le _) ⟨rfl, trivial⟩ (fun _ s1 => by rw [outP_zero]; exact (s1.del 2)) ?_
 rintro j hj f; (try dsimp only at hj ⊢)
 refine Zx ?_
 refine cd_cond rfl (fun hb6 => ?_) (fun hb6 => ?_)
 ·have hp6 := hb6
  (try simp only [bn] at hp6)
  have hj32 : j < 32 := by omega
  refine Z2t ?_
  refine Z8 ?_
  refine Z1b ?_
  refine Z2u ?_
  refine oq (op_quonk (A := j) (C := 4) rfl rfl (by decide) (by omega)) ?_
  refine oq (op_aidx0 (j / 4) a1_164 rfl rfl rfl (by omega)) ?_
  refine oq (op_ld 1 sc_163 rfl rfl (wC_gd (ws := (run8 ((textM s).length / 64) H8 (textM s)).1) (by rw [(run8 ((textM s).length / 64) H8 (textM s)).2]; omega))) ?_
  refine Z4 ?_
  refine oq (op_remn (A := j) (C := 4) rfl rfl (by decide)) ?_
  refine Z7p ?_
  refine Z2m ?_
  refine oq (op_conv64m (24 - 8 * (j % 4)) Try.underlying74 (by rw [Try.underlying3]; rfl) rfl (by omega) (by omega)) ?_
  refine oq (op_shr32 (m := 24 - 8 * (j % 4)) _ rfl rfl (by omega)) ?_
  refine Z93 ?_
  refine oq (op_aidx0 j a1_24 rfl rfl rfl (by omega)) ?_
  refine oN (os_store (v := .int _ _) sc_5 rfl rfl rfl (Nat.ble_eq_true_of_le (show j + 1 ≤ _ by rw [List.size_toArray, rootC_len]; omega)) (Free.zero _) (rootC_set _ _ _)) ?_; rintro _ _ ⟨rfl, rfl⟩
  refine Z35 ?_
  refine px_loop2 (j + 1) (by omega) (by (try dsimp only); omega) ⟨congrArg (Value.int .i64) (by simp), trivial⟩ ?_ (fun _ s => (by (try dsimp only); rw [outP_succ _ hj32]; exact s))
  exact Z2
 have hp6 := hb6
 (try simp only [bn] at hp6)
 obtain rfl : j = 32 := by omega
 refine Z2d ?_
 refine Z2k ?_
 refine Zs ?_
 refine Z4s ?_
 exact px_rv1 rfl (rv_cella 0 ag_24 rfl rfl (rootC_take' _) (by simp [rootC_len])) (fun _ s => (((s.del 2).del 1).del 0)) ⟨by rw [shaM_text]; rfl, rfl⟩
end Go.SL

set_option linter.unusedVariables false
set_option linter.unusedSimpArgs false
namespace Go.SL
open Go.Proofs

set_option maxRecDepth 100000 in
set_option maxHeartbeats 1000000 in
theorem GRBytes_calls {w0 w : World} {l : List HProp} (ao : Option Addr) (c : Nat) (xs : List Val) (n1 n2 n3 n4 n5 n6 n7 n8 n9 n10 n11 : Int) (hs : Sat w0 w (l)) (hr : Rds w0 l encVal ao xs) (hxl : xs.length ≤ 64) (hk : ∀ y ∈ xs, y.key.length ≤ 32) :
  Calls Try.prog 87 #[.agg (cfgC ⟨⟨ao, xs.length, c⟩, n1, n2, n3, n4, n5, n6, n7, n8, n9, n10, n11⟩).toArray] w (Ret w0 fun v l' => v = .string (B (bytesC ⟨⟨ao, xs.length, c⟩, n1, n2, n3, n4, n5, n6, n7, n8, n9, n10, n11⟩ xs)) ∧ l' = l) := by
 have h12 : (nums12 ⟨⟨ao, xs.length, c⟩, n1, n2, n3, n4, n5, n6, n7, n8, n9, n10, n11⟩ xs.length).length = 12 := rfl
 have h24 : (numsL ⟨⟨ao, xs.length, c⟩, n1, n2, n3, n4, n5, n6, n7, n8, n9, n10, n11⟩ xs.length).length = 24 := rfl
 have hlA := bytesA_length (nums12 ⟨⟨ao, xs.length, c⟩, n1, n2, n3, n4, n5, n6, n7, n8, n9, n10, n11⟩ xs.length)
 refine calls_enter Try.func87 rfl rfl rfl hs ?_
 refine Zj ?_; intro bx1
 refine Z45 ?_
 refine Z19 ?_
 refine Z45 ?_
 refine Z19 ?_
 refine Z4m ?_
 refine oi (os_call cb_102 rfl (fun w s => Numbers_calls _ _ _ _ _ _ _ _ _ _ _ _ _ _  s (hr.cons _))) ?_; rintro _ _ ⟨no1, nc1, rfl, rfl⟩
 refine Zw ?_
 refine Z4c ?_
 refine Z3j ?_
 refine cd_loop2 (α := Nat) [(3, 3), (5, 5), (10, 23)] (fun x => [(3, .string (B (bytesA ((nums12 ⟨⟨ao, xs.length, c⟩, n1, n2, n3, n4, n5, n6, n7, n8, n9, n10, n11⟩ xs.length).take x)))), (5, .int .i64 ((2 * x : Nat) : Int))]) (fun _ => _) (fun x => x ≤ 12) (fun x => 12 - x) 0 (Nat.zero_le _) ⟨rfl, rfl, trivial⟩ (fun _ s => s) ?_
 rintro i hi f; (try dsimp only at hi ⊢)
 refine Zf ?_
 refine Zm ?_
 refine Z5k ?_
 refine Z3u ?_
 refine cd_cond rfl (fun hb1 => ?_) (fun hb1 => ?_)
 ·have hp1 := hb1
  (try simp only [bn] at hp1)
  have hi12 : i < 12 := by omega
  have hu4 := u64N_lt (numsL ⟨⟨ao, xs.length, c⟩, n1, n2, n3, n4, n5, n6, n7, n8, n9, n10, n11⟩ xs.length)[2 * i]
  have hla := bytesA_length ((nums12 ⟨⟨ao, xs.length, c⟩, n1, n2, n3, n4, n5, n6, n7, n8, n9, n10, n11⟩ xs.length).take i)
  rw [List.length_take] at hla
  have hat := nums12_at ⟨⟨ao, xs.length, c⟩, n1, n2, n3, n4, n5, n6, n7, n8, n9, n10, n11⟩ xs.length i hi12 (by omega) (by omega)
  refine Z3g ?_
  refine Z1b ?_
  refine Z4n ?_
  refine Zm ?_
  refine Z4 ?_
  refine oq (op_index (2 * i) sB_42 rfl rfl rfl (rds_row 0 rfl rfl) rfl (by omega)) ?_
  refine oq (op_ldw sc_3 (rds_row 0 rfl rfl) rfl (by omega) rfl) ?_
  refine oq (op_conv64i Try.underlying142 (by rw [Try.underlying3]; rfl) rfl) ?_
  refine oi (os_call cb_103 rfl (fun w s => RPut_calls (wd := 4) _ _  s (show clamp8 4 = 4 from rfl) (by omega))) ?_; rintro _ _ ⟨rfl, rfl⟩
  refine oq (op_sadd rfl rfl (by rw [hla, putB_length]; omega)) ?_
  refine Z45 ?_
  refine ol_nil ?_
  refine Z6n ?_
  have e1 := bytesA_succ (nums12 ⟨⟨ao, xs.length, c⟩, n1, n2, n3, n4, n5, n6, n7, n8, n9, n10, n11⟩ xs.length) i (by omega)
  rw [← hat] at e1
  refine px_loop2 (i + 1) (by omega) (by (try dsimp only); omega) ⟨congrArg (fun q => Value.string (B q)) e1.symm, congrArg (Value.int .i64) (by omega), trivial⟩ ?_ (fun _ s => s)
  exact Z2
 have hp1 := hb1
 (try simp only [bn] at hp1)
 obtain rfl : i = 12 := by omega
 rw [List.take_of_length_le (show (nums12 ⟨⟨ao, xs.length, c⟩, n1, n2, n3, n4, n5, n6, n7, n8, n9, n10, n11⟩ xs.length).length ≤ 12 from Nat.le_refl _)]
 refine Z1e ?_
 refine Z15 ?_
 refine Z44 ?_
 refine oq (op_ld 1 sc_63 rfl rfl (cfgC_a0 _)) ?_
 refine Z4l ?_
 refine Z1l ?_
 refine cd_loop2 (α := Nat) [(3, 3), (7, 7), (27, 46)] (fun x => [(3, .string (B (bytesA (nums12 ⟨⟨ao, xs.length, c⟩, n1, n2, n3, n4, n5, n6, n7, n8, n9, n10, n11⟩ xs.length) ++ bytesV (xs.take x)))), (27, .int .i64 (x : Int))]) (fun x => Blk bx1 (.cells (cfgC ⟨⟨ao, xs.length, c⟩, n1, n2, n3, n4, n5, n6, n7, n8, n9, n10, n11⟩).toArray 65 (0, 0)) :: l) (fun x => x ≤ xs.length) (fun x => xs.length - x) 0 (Nat.zero_le _) ⟨congrArg (fun q => Value.string (B q)) (by simp [bytesV]), rfl, trivial⟩ (fun _ s => (s.del 0)) ?_
 rintro j hj f; (try dsimp only at hj ⊢)
 refine Zx ?_
 refine cd_cond rfl (fun hb2 => ?_) (fun hb2 => ?_)
 ·have hp2 := hb2
  (try simp only [bn] at hp2)
  have hj1 : j < xs.length := by omega
  have hu8 := u64N_lt xs[j].stake
  have hk1 := hk xs[j] (List.getElem_mem _)
  have hbv := bytesV_length (l := xs.take j) fun y hy => hk y (List.mem_of_mem_take hy)
  rw [List.length_take] at hbv
  have e2 := bytesV_succ xs j hj1
  refine Z33 ?_
  refine oq (op_index _ sB_63 rfl rfl rfl (hr.cons _) rfl (by omega)) ?_
  refine oq (op_ldaw (L := valC _) ag_78 (hr.cons _) rfl (by omega) rfl (valC_ta _)) ?_
  refine Z8v ?_; intro bx2
  refine Z8w ?_
  refine Z1 ?_
  refine cd_draw (M := []) mx [4, 10] (by kernel_rfl) ?_
  refine rg_q (wn_none rfl) (op_move (v := .string _) rfl) rfl rfl ?_
  refine rg_q (wn_none rfl) (op_field fld_78_0 rfl) rfl rfl ?_
  refine Zdc ?_
  refine rg_i (wn_none rfl) (os_call cb_103 rfl (fun w s => RPut_calls (wd := 8) _ _  s (show clamp8 8 = 8 from rfl) (by omega))) rfl rfl ?_; rintro _ _ ⟨rfl, rfl⟩; refine ⟨[], rfl, ?_⟩
  refine rg_q (wn_none rfl) (op_sadd rfl rfl (by rw [putB_length, List.length_append]; omega)) rfl rfl ?_
  refine Zam ?_
  refine Zd5 ?_
  refine rg_i (wn_none rfl) (os_call cb_103 rfl (fun w s => RPut_calls (wd := 1) _ _  s (show clamp8 1 = 1 from rfl) (by omega))) rfl rfl ?_; rintro _ _ ⟨rfl, rfl⟩; refine ⟨[], rfl, ?_⟩
  refine rg_q (wn_none rfl) (op_sadd rfl rfl (by rw [putB_length, List.length_append, List.length_append, putB_length]; omega)) rfl rfl ?_
  refine Zam ?_
  refine rg_q (wn_none rfl) (op_sadd rfl rfl (by simp only [putB_length, List.length_append]; omega)) rfl rfl ?_
  refine rg_q (wn_none rfl) (op_assign (v := .string _) rfl) rfl rfl ?_
  refine rg_nil0 ?_
  refine Z5o ?_
  have e3 : bytesA (nums12 ⟨⟨ao, xs.length, c⟩, n1, n2, n3, n4, n5, n6, n7, n8, n9, n10, n11⟩ xs.length) ++ bytesV (xs.take (j + 1)) = bytesA (nums12 ⟨⟨ao, xs.length, c⟩, n1, n2, n3, n4, n5, n6, n7, n8, n9, n10, n11⟩ xs.length) ++ bytesV (xs.take j) ++ putB (u64N xs[j].stake) 8 ++ putB xs[j].key.length 1 ++ xs[j].key := by rw [e2]; simp only [List.append_assoc]
  refine px_loop2 (j + 1) (by omega) (by (try dsimp only); omega) ⟨congrArg (fun q => Value.string (B q)) e3.symm, congrArg (Value.int .i64) (by simp), trivial⟩ ?_ (fun _ s => (s.del 0))
  exact Z2
 have hp2 := hb2
 (try simp only [bn] at hp2)
 obtain rfl : j = xs.length := by omega
 rw [List.take_length]
 refine Z2d ?_
 refine Z4n ?_
 refine Z45 ?_
 refine Z1s ?_
 exact px_ret1 rfl (v := .string _) rfl (fun _ s => (s.del 0)) ⟨rfl, rfl⟩

theorem bytesC_le {q : Cfg} {xs : List Val} (hxl : xs.length ≤ 64) (hk : ∀ y ∈ xs, y.key.length ≤ 32) : (bytesC q xs).length ≤ 3000 := by
 unfold bytesC
 have h1 := bytesV_length hk
 rw [List.length_append, bytesA_length]
 have h2 : (nums12 q xs.length).length = 12 := rfl
 omega

set_option maxRecDepth 100000 in
set_option maxHeartbeats 1000000 in
theorem GRoot_calls {w0 w : World} {l : List HProp} (ao : Option Addr) (c : Nat) (xs : List Val) (n1 n2 n3 n4 n5 n6 n7 n8 n9 n10 n11 : Int) (hs : Sat w0 w (l)) (hr : Rds w0 l encVal ao xs) (hxl : xs.length ≤ 64) (hk : ∀ y ∈ xs, y.key.length ≤ 32) :
  Calls Try.prog 84 #[.agg (cfgC ⟨⟨ao, xs.length, c⟩, n1, n2, n3, n4, n5, n6, n7, n8, n9, n10, n11⟩).toArray] w (Ret w0 fun v l' => v = .agg (rootC (shaM ([116, 111, 108, 108, 101, 114] ++ bytesC ⟨⟨ao, xs.length, c⟩, n1, n2, n3, n4, n5, n6, n7, n8, n9, n10, n11⟩ xs))).toArray ∧ l' = l) := by
 have hbl := bytesC_le (q := ⟨⟨ao, xs.length, c⟩, n1, n2, n3, n4, n5, n6, n7, n8, n9, n10, n11⟩) hxl hk
 refine calls_enter Try.func84 rfl rfl rfl hs ?_
 refine Zj ?_; intro bx1
 refine Z1w ?_; intro bx2
 refine Z19 ?_
 refine Za4 ?_
 refine oi (os_call cb_98 rfl (fun w s => GBytes_calls _ _ _ _ _ _ _ _ _ _ _ _ _ _  s ((hr.cons _).cons _) (by omega) (by assumption))) ?_; rintro _ _ ⟨rfl, rfl⟩
 refine oi (os_bslice (E := encStr) [_, _] (ys := [[116, 111, 108, 108, 101, 114], bytesC ⟨⟨ao, xs.length, c⟩, n1, n2, n3, n4, n5, n6, n7, n8, n9, n10, n11⟩ xs]) sB_175 zv_9 rfl rfl rfl rfl (by decide)) ?_; rintro _ _ ⟨ao1, rfl, rfl⟩
 refine oi (os_call cb_97 rfl (fun w s => Of_calls _ _ _  s (rds_row 0 rfl rfl) (by rw [List.flatten_cons, List.flatten_cons, List.flatten_nil, List.append_nil, List.length_append]; show 6 + _ < _; omega) (by show 2 ≤ 1000000; omega))) ?_; rintro _ _ ⟨rfl, rfl⟩
 refine Z9 ?_
 refine Z4s ?_
 exact px_rv1 rfl (rv_cella 0 ag_24 rfl rfl (rootC_take' _) (by simp [rootC_len])) (fun _ s => (((s.del 2).del 1).del 0)) ⟨by rw [List.flatten_cons, List.flatten_cons, List.flatten_nil, List.append_nil], rfl⟩

set_option maxRecDepth 100000 in
set_option maxHeartbeats 1000000 in
theorem RRoot_calls {w0 w : World} {l : List HProp} (ao : Option Addr) (c : Nat) (xs : List Val) (n1 n2 n3 n4 n5 n6 n7 n8 n9 n10 n11 : Int) (hs : Sat w0 w (l)) (hr : Rds w0 l encVal ao xs) (hxl : xs.length ≤ 64) (hk : ∀ y ∈ xs, y.key.length ≤ 32) :
  Calls Try.prog 63 #[.agg (cfgC ⟨⟨ao, xs.length, c⟩, n1, n2, n3, n4, n5, n6, n7, n8, n9, n10, n11⟩).toArray] w (Ret w0 fun v l' => v = .agg (rootC (shaM ([116, 111, 108, 108, 101, 114] ++ bytesC ⟨⟨ao, xs.length, c⟩, n1, n2, n3, n4, n5, n6, n7, n8, n9, n10, n11⟩ xs))).toArray ∧ l' = l) := by
 have hbl := bytesC_le (q := ⟨⟨ao, xs.length, c⟩, n1, n2, n3, n4, n5, n6, n7, n8, n9, n10, n11⟩) hxl hk
 refine calls_enter Try.func63 rfl rfl rfl hs ?_
 refine Zj ?_; intro bx1
 refine Z1w ?_; intro bx2
 refine Z19 ?_
 refine Za4 ?_
 refine oi (os_call cb_87 rfl (fun w s => GRBytes_calls _ _ _ _ _ _ _ _ _ _ _ _ _ _  s ((hr.cons _).cons _) (by omega) (by assumption))) ?_; rintro _ _ ⟨rfl, rfl⟩
 refine oq (op_sadd (a := [116, 111, 108, 108, 101, 114]) rfl rfl (by show 6 + _ ≤ _; omega)) ?_
 refine oi (os_call cb_86 rfl (fun w s => ROf_calls _  s (by rw [List.length_append]; show 6 + _ ≤ _; omega))) ?_; rintro _ _ ⟨rfl, rfl⟩
 refine Z4s ?_
 exact px_rv1 rfl (rv_cella 0 ag_24 rfl rfl (rootC_take' _) (by simp [rootC_len])) (fun _ s => ((s.del 1).del 0)) ⟨rfl, rfl⟩
end Go.SL

set_option linter.unusedVariables false
set_option linter.unusedSimpArgs false
namespace Go.SL
def stk (vs : List Val) (w : Nat) : Int := (vs.getD w Val.zero).stake
theorem stk_get {vs : List Val} {w : Nat} (h : w < vs.length) : stk vs w = vs[w].stake := by simp [stk, List.getD_eq_getElem?_getD, h]
/-- for what a validator stands: its latest vote's block, if it counts -/
def effT (tb : TabS) (w : Nat) : Option Root := if tb.counts (w : Int) = true then (tb.vote (w : Int)).map (·.target) else none
def shareE (vs : List Val) (E : Nat → Option Root) (r : Root) (w : Nat) : Int := if E w = some r then stk vs w else 0
def allE (vs : List Val) (E : Nat → Option Root) (r : Root) : Int := sg (shareE vs E r) vs.length
def ownE (vs : List Val) (E : Nat → Option Root) (ns : List Node) : List Int := tab ns.length fun i => allE vs E (rtA ns i)
structure StkOK (vs : List Val) : Prop where
  nn : ∀ w, 0 ≤ stk vs w
  tt : sg (stk vs) vs.length < 4611686018427387904
def inE (ns : List Node) (E : Nat → Option Root) (w : Nat) : Bool := match E w with | some r => (idxOf ns r).isSome | none => false
def updE (E : Nat → Option Root) (w : Nat) (x : Option Root) : Nat → Option Root := fun k => if k = w then x else E k
section
variable {vs : List Val} {E E' : Nat → Option Root} {ns : List Node} {r : Root} {w i k : Nat}
theorem place_idx {t : TreeS} : (idxOf t.nodes r = none ∧ t.place r = -1) ∨ ∃ a, idxOf t.nodes r = some a ∧ t.place r = (a : Int) ∧ a < t.nodes.length ∧ rtA t.nodes a = r := by
  unfold TreeS.place
  cases h : idxOf t.nodes r with
  | none => exact .inl ⟨rfl, rfl⟩
  | some a =>
    obtain ⟨n, h2, h3⟩ := idxOf_some h
    exact .inr ⟨a, rfl, rfl, idxOf_lt h, by unfold rtA; rw [h2]; exact h3⟩
theorem sg_swap (f : Nat → Nat → Int) (n m : Nat) : sg (fun i => sg (f i) m) n = sg (fun w => sg (fun i => f i w) n) m := by
  induction n with
  | zero => exact (sg_zero fun _ _ => rfl).symm
  | succ n ih =>
    rw [sg_succ, ih, ← sg_add]
    exact sg_congr fun j _ => rfl
theorem ownE_len (vs : List Val) (E : Nat → Option Root) (ns : List Node) : (ownE vs E ns).length = ns.length := tab_len _ _
theorem ownE_at (h : i < ns.length) : oA (ownE vs E ns) i = allE vs E (rtA ns i) := tab_oA h
theorem share_nn (h : StkOK vs) : 0 ≤ shareE vs E r w := by unfold shareE; split; exact h.nn w; exact Int.le_refl _
theorem share_le (h : StkOK vs) : shareE vs E r w ≤ stk vs w := by
  unfold shareE; split
  · exact Int.le_refl _
  · exact h.nn w
theorem all_nn (h : StkOK vs) : 0 ≤ allE vs E r := sg_nonneg fun _ _ => share_nn h
theorem all_le (h : StkOK vs) : allE vs E r ≤ sg (stk vs) vs.length := sg_le fun _ _ => share_le h
theorem tot_ownE {t : TreeS} (hw : t.WF) : tot (ownE vs E t.nodes) = sg (fun w => if inE t.nodes E w = true then stk vs w else 0) vs.length := by
  unfold tot
  rw [ownE_len]
  have h1 : sg (oA (ownE vs E t.nodes)) t.nodes.length = sg (fun i => sg ((fun i => shareE vs E (rtA t.nodes i)) i) vs.length) t.nodes.length := sg_congr fun i hi => ownE_at hi
  rw [h1, sg_swap]
  refine sg_congr fun w _ => ?_
  unfold shareE
  cases hE : E w with
  | none =>
    have hin : inE t.nodes E w = false := by unfold inE; rw [hE]
    rw [hin, if_neg (by simp)]; exact sg_zero fun i _ => by rw [if_neg (by simp)]
  | some r =>
    have hin : inE t.nodes E w = (idxOf t.nodes r).isSome := by unfold inE; rw [hE]
    rw [hin]
    rcases place_idx (t := t) (r := r) with ⟨hr, _⟩ | ⟨a, hr, _, ha, hra⟩
    · rw [hr, if_neg (by simp)]
      refine sg_zero fun i hi => ?_
      rw [if_neg]
      intro q
      have : r = rtA t.nodes i := Option.some.inj q
      subst this
      rw [idx_rt hw hi] at hr; cases hr
    · rw [hr, if_pos (by simp)]
      have h4 : sg (fun i => if some r = some (rtA t.nodes i) then stk vs w else 0) t.nodes.length = sg (fun i => if i = a then stk vs w else 0) t.nodes.length := by
        refine sg_congr fun i hi => ?_
        by_cases e : i = a
        · subst e; rw [if_pos rfl, if_pos (by rw [hra])]
        · rw [if_neg e, if_neg]
          intro q
          have q2 : r = rtA t.nodes i := Option.some.inj q
          exact e (rtA_inj hw.nd hi ha (by rw [hra, ← q2]))
      rw [h4, sg_one, if_pos ha]
theorem ownE_ok (h : StkOK vs) {t : TreeS} (hw : t.WF) : OwnOK (ownE vs E t.nodes) := by
  refine ⟨fun j => ?_, ?_⟩
  · rcases Nat.lt_or_ge j t.nodes.length with hj | hj
    · rw [ownE_at hj]; exact all_nn h
    · rw [oA_out (by rw [ownE_len]; exact hj)]; exact Int.le_refl _
  · rw [tot_ownE hw]
    have h1 : sg (fun w => if inE t.nodes E w = true then stk vs w else 0) vs.length ≤ sg (stk vs) vs.length := sg_le fun w _ => by
      split
      · exact Int.le_refl _
      · exact h.nn w
    have := h.tt
    omega
/-- so much more, or less, of one -/
theorem apply_d {t : TreeS} (hw : t.WF) {o : List Int} (ho : OwnOK o) (hl : o.length = t.nodes.length) {a : Nat} (ha : a < t.nodes.length) {d : Int} (h0 : 0 ≤ oA o a + d) (h1 : tot o + d < 4611686018427387904) (h2 : -4611686018427387904 < d) (h3 : d < 4611686018427387904) :
    applyO t.nodes o [⟨rtA t.nodes a, d⟩] = (0, o.set a (oA o a + d)) := by
  have hle : oA o a ≤ tot o := sg_get (f := oA o) (m := o.length) (fun j _ => ho.nn j) (i := a) (by omega)
  have e1 : tot (o.set a (oA o a + d)) = tot o + d := by rw [tot_set (by omega)]; omega
  have hs : stepO t.nodes o ⟨rtA t.nodes a, d⟩ = (0, o.set a (oA o a + d)) := stepO_in (i := a) (idx_rt hw ha) (by show ¬ (d ≤ _ ∨ _ ≤ d); omega) (by show ¬ (oA o a + d < 0 ∨ _ ≤ oA o a + d); omega)
  have hr : runO t.nodes o [⟨rtA t.nodes a, d⟩] = (0, o.set a (oA o a + d)) := by
    show (if (stepO t.nodes o ⟨rtA t.nodes a, d⟩).1 = 0 then runO t.nodes (stepO t.nodes o ⟨rtA t.nodes a, d⟩).2 [] else _) = _
    rw [hs, if_pos rfl]; rfl
  unfold applyO
  dsimp only
  rw [growO_same hl, hr, if_pos rfl, if_pos (by dsimp only; rw [e1]; exact h1)]
def putO (t : TreeS) (o : List Int) (r : Root) (n : Int) : List Int := if t.place r < 0 then o else (applyO t.nodes o [⟨r, n⟩]).2
theorem ownE_set {t : TreeS} (hw : t.WF) {a : Nat} (ha : a < t.nodes.length) {d : Int} (hra : rtA t.nodes a = r) (h : ∀ r', allE vs E' r' = allE vs E r' + if r' = r then d else 0) : (ownE vs E t.nodes).set a (oA (ownE vs E t.nodes) a + d) = ownE vs E' t.nodes := by
  refine oA_ext (by rw [List.length_set, ownE_len, ownE_len]) fun j => ?_
  rw [oA_set (by rw [ownE_len]; exact ha)]
  by_cases e : j = a
  · subst e; rw [if_pos rfl, ownE_at ha, ownE_at ha, h, if_pos hra]
  · rw [if_neg e]
    rcases Nat.lt_or_ge j t.nodes.length with hj | hj
    · rw [ownE_at hj, ownE_at hj, h, if_neg (fun q => e (rtA_inj hw.nd hj ha (by rw [q, hra]))), Int.add_zero]
    · rw [oA_out (by rw [ownE_len]; exact hj), oA_out (by rw [ownE_len]; exact hj)]
theorem put_gen (hs : StkOK vs) {t : TreeS} (hw : t.WF) {d : Int} (h2 : -4611686018427387904 < d) (h3 : d < 4611686018427387904) (h : ∀ r', allE vs E' r' = allE vs E r' + if r' = r then d else 0) : putO t (ownE vs E t.nodes) r d = ownE vs E' t.nodes := by
  unfold putO
  rcases place_idx (t := t) (r := r) with ⟨hi, hp⟩ | ⟨a, hi, hp, ha, hra⟩
  · rw [if_pos (by omega)]
    exact tab_congr fun i hi2 => by
      rw [h, if_neg (fun q => by rw [← q, idx_rt hw hi2] at hi; cases hi), Int.add_zero]
  · rw [if_neg (by omega)]
    have hset := ownE_set hw ha hra h
    have hok := ownE_ok (E := E') hs hw
    have h4 : 0 ≤ oA (ownE vs E t.nodes) a + d := by
      have h5 := hok.nn a
      rw [← hset, oA_set (by rw [ownE_len]; exact ha), if_pos rfl] at h5
      exact h5
    have h6 : tot (ownE vs E t.nodes) + d < 4611686018427387904 := by
      have h7 := hok.tt
      rw [← hset, tot_set (by rw [ownE_len]; exact ha)] at h7
      omega
    have := apply_d hw (ownE_ok (E := E) hs hw) (ownE_len _ _ _) ha h4 h6 h2 h3
    rw [hra] at this
    rw [this]; exact hset
theorem all_upd (hw : w < vs.length) (x : Option Root) (r' : Root) : allE vs (updE E w x) r' = allE vs E r' + ((if x = some r' then stk vs w else 0) - (if E w = some r' then stk vs w else 0)) := by
  unfold allE
  have h1 : sg (shareE vs (updE E w x) r') vs.length = sg (fun k => shareE vs E r' k + (if k = w then (if x = some r' then stk vs w else 0) - (if E w = some r' then stk vs w else 0) else 0)) vs.length := by
    refine sg_congr fun k _ => ?_
    unfold shareE updE
    by_cases e : k = w
    · subst e; rw [if_pos rfl, if_pos rfl]; omega
    · rw [if_neg e, if_neg e, Int.add_zero]
  rw [h1, sg_add, sg_one, if_pos hw]
theorem stk_lt (hs : StkOK vs) (hw : w < vs.length) : 0 ≤ stk vs w ∧ stk vs w < 4611686018427387904 := by
  have h1 := hs.nn w
  have h2 := sg_get (f := stk vs) (m := vs.length) (fun j _ => hs.nn j) hw
  have := hs.tt
  exact ⟨h1, by omega⟩
theorem put_less (hs : StkOK vs) {t : TreeS} (ht : t.WF) (hw : w < vs.length) (hE : E w = some r) : putO t (ownE vs E t.nodes) r (-(stk vs w)) = ownE vs (updE E w none) t.nodes := by
  have h1 := stk_lt hs hw
  refine put_gen hs ht (by omega) (by omega) fun r' => ?_
  rw [all_upd hw, hE, if_neg (by simp)]
  by_cases e : r' = r
  · subst e; rw [if_pos rfl, if_pos rfl]; omega
  · rw [if_neg (fun q => e (Option.some.inj q).symm), if_neg e]; omega
theorem put_more (hs : StkOK vs) {t : TreeS} (ht : t.WF) (hw : w < vs.length) (hE : E w = none) : putO t (ownE vs E t.nodes) r (stk vs w) = ownE vs (updE E w (some r)) t.nodes := by
  have h1 := stk_lt hs hw
  refine put_gen hs ht (by omega) (by omega) fun r' => ?_
  rw [all_upd hw, hE, if_neg (show ¬ (none : Option Root) = some r' by simp)]
  by_cases e : r' = r
  · subst e; rw [if_pos rfl, if_pos rfl]; omega
  · rw [if_neg (fun q => e (Option.some.inj q).symm), if_neg e]; omega
theorem put_zero (hs : StkOK vs) {t : TreeS} (ht : t.WF) : putO t (ownE vs E t.nodes) r 0 = ownE vs E t.nodes := put_gen hs ht (by decide) (by decide) fun r' => by split <;> omega
theorem updE_self {x : Option Root} (h : E w = x) : updE E w x = E := by funext k; unfold updE; split <;> simp_all
theorem updE_updE (x y : Option Root) : updE (updE E w x) w y = updE E w y := by funext k; unfold updE; split <;> rfl
theorem updE_at (x : Option Root) : updE E w x w = x := if_pos rfl
theorem ownE_congr (h : ∀ w, w < vs.length → E w = E' w) (ns : List Node) : ownE vs E ns = ownE vs E' ns := tab_congr fun i _ => sg_congr fun w hw => by unfold shareE; rw [h w hw]
/-- a block more -/
theorem add_ownE (hs : StkOK vs) {t : TreeS} (hw : t.WF) {p : Root} {slot : Int} (h : (t.add r p slot).1 = 0) : applyO (t.add r p slot).2.nodes (ownE vs E t.nodes) [⟨r, allE vs E r⟩] = (0, ownE vs E (t.add r p slot).2.nodes) := by
  have hw2 := hw.add r p slot
  have hx : ∃ x : Node, x.root = r ∧ (t.add r p slot).2.nodes = t.nodes ++ [x] := by
    rcases TreeS.add_cases t r p slot with h1
    unfold TreeS.add at h ⊢
    split at h
    · cases h
    · rename_i h3
      rw [if_neg h3]
      split at h
      · cases h
      · split at h
        · cases h
        · split at h
          · cases h
          · rename_i j hj h5 h6
            exact ⟨⟨r, slot, (j : Int)⟩, rfl, by rw [if_neg h5, if_neg h6]⟩
  obtain ⟨x, hx1, hx2⟩ := hx
  have hl2 : (t.add r p slot).2.nodes.length = t.nodes.length + 1 := by rw [hx2]; simp
  have hrn : rtA (t.add r p slot).2.nodes t.nodes.length = r := by unfold rtA; rw [hx2]; simp [hx1]
  have hrt : ∀ i, i < t.nodes.length → rtA (t.add r p slot).2.nodes i = rtA t.nodes i := fun i hi => by rw [hx2]; exact rtA_app hi
  rw [applyO_grow _ _ _ (by rw [ownE_len]; omega)]
  have hgl : (growO (t.add r p slot).2.nodes.length (ownE vs E t.nodes)).length = (t.add r p slot).2.nodes.length := growO_len (by rw [ownE_len]; omega)
  have hset : (growO (t.add r p slot).2.nodes.length (ownE vs E t.nodes)).set t.nodes.length (oA (growO (t.add r p slot).2.nodes.length (ownE vs E t.nodes)) t.nodes.length + allE vs E r) = ownE vs E (t.add r p slot).2.nodes := by
    refine oA_ext (by rw [List.length_set, hgl, ownE_len]) fun j => ?_
    rw [oA_set (by rw [hgl]; omega)]
    by_cases e : j = t.nodes.length
    · subst e
      rw [if_pos rfl, grow_oA, oA_out (by rw [ownE_len]; exact Nat.le_refl _), ownE_at (by omega), hrn]; omega
    · rw [if_neg e, grow_oA]
      rcases Nat.lt_or_ge j t.nodes.length with hj | hj
      · rw [ownE_at hj, ownE_at (by omega), hrt j hj]
      · rw [oA_out (by rw [ownE_len]; exact hj), oA_out (by rw [ownE_len]; omega)]
  have hok := ownE_ok (E := E) hs hw2
  have hal := all_le (E := E) (r := r) hs
  have haln := all_nn (E := E) (r := r) hs
  have htt := hs.tt
  have h6 : tot (growO (t.add r p slot).2.nodes.length (ownE vs E t.nodes)) + allE vs E r < 4611686018427387904 := by
    have h7 := hok.tt
    rw [← hset, tot_set (by rw [hgl]; omega)] at h7
    omega
  have h8 : oA (growO (t.add r p slot).2.nodes.length (ownE vs E t.nodes)) t.nodes.length = 0 := by rw [grow_oA, oA_out (by rw [ownE_len]; exact Nat.le_refl _)]
  have := apply_d hw2 ((ownE_ok (E := E) hs hw).zeros _) hgl (a := t.nodes.length) (by omega) (d := allE vs E r) (by show 0 ≤ oA (growO _ _) _ + _; omega) h6 (by omega) (by omega)
  rw [hrn] at this
  rw [← hset]; exact this
/-- what is left -/
theorem pr_ownE {t : TreeS} (hw : t.WF) (a : Nat) : prO t.nodes a (ownE vs E t.nodes) = ownE vs E (prT t a).nodes := by
  refine oA_ext (by rw [prO_len, ownE_len]; exact (prN_len _ _ _).symm) fun j => ?_
  rcases Nat.lt_or_ge j (rk t.nodes a t.nodes.length) with hj | hj
  · obtain ⟨i, _, q2, q3, q4⟩ := selI_at hj
    have h1 : rtA (prT t a).nodes j = rtA t.nodes i := by rw [← q4]; exact rt_pr q2 q3
    rw [← q4, prO_at q2 q3, ownE_at q2, q4, ownE_at (by show j < (prN t.nodes a t.nodes.length).length; rw [prN_len]; exact hj), h1]
  · rw [oA_out (by rw [prO_len]; exact hj), oA_out (by rw [ownE_len]; show (prN t.nodes a t.nodes.length).length ≤ j; rw [prN_len]; exact hj)]
theorem take_eff {tb : TabS} (v : Vote) (h : tb.WF) : ((tb.take v).1 = 0 ∧ (0 ≤ v.who ∧ v.who < tb.latest.length) ∧ tb.counts v.who = true ∧ (∀ k, effT (tb.take v).2 k = updE (effT tb) v.who.toNat (some v.target) k)) ∨
    ((tb.take v).1 = 2 ∧ (0 ≤ v.who ∧ v.who < tb.latest.length) ∧ tb.counts v.who = true ∧ (∀ k, effT (tb.take v).2 k = updE (effT tb) v.who.toNat none k)) ∨
    ((tb.take v).1 ≠ 0 ∧ (tb.take v).1 ≠ 2 ∧ ∀ k, effT (tb.take v).2 k = effT tb k) := by
  rcases TabS.take_cases tb v h with ⟨h1, h2⟩ | ⟨⟨h1, h2, h3, h4⟩, h5⟩
  · rw [h2]; exact .inr (.inr ⟨by simp, by simp, fun k => rfl⟩)
  · have hv : tb.isV v.who = true := TabS.isV_iff.2 ⟨h1, h2⟩
    have hlt : v.who.toNat < tb.latest.length := by omega
    have hlo := h.lo
    rcases h5 with ⟨h6, h7⟩ | ⟨h6, ⟨r, h7, ⟨h8, h9⟩ | ⟨h8, h9⟩⟩ | ⟨h7, ⟨o, h8, h9, h10⟩ | ⟨h8, h9⟩⟩⟩
    · rw [h7]; exact .inr (.inr ⟨by simp, by simp, fun k => rfl⟩)
    · rw [h9]; exact .inr (.inr ⟨by simp, by simp, fun k => rfl⟩)
    · rw [h9]
      refine .inr (.inl ⟨rfl, ⟨h1, h2⟩, TabS.counts_true.2 ⟨hv, h6⟩, fun k => ?_⟩)
      unfold effT updE
      by_cases e : k = v.who.toNat
      · rw [if_pos e, if_neg]
        rw [Bool.not_eq_true, TabS.counts_false]
        right
        show (tb.out.set v.who.toNat true).getD ((k : Int)).toNat false = true
        rw [Int.toNat_natCast, e]
        exact getD_set_self _ _ _ _ (by omega)
      · rw [if_neg e]
        have hc : ({ tb with out := tb.out.set v.who.toNat true } : TabS).counts (k : Int) = tb.counts (k : Int) := by
          show (tb.isV (k : Int) && !(tb.out.set v.who.toNat true).getD ((k : Int)).toNat false) = (tb.isV (k : Int) && !tb.out.getD ((k : Int)).toNat false)
          rw [Int.toNat_natCast, getD_set_ne _ _ _ _ _ (fun q => e q.symm)]
        show (if ({ tb with out := tb.out.set v.who.toNat true } : TabS).counts (k : Int) = true then _ else _) = _
        rw [hc]; rfl
    · rw [h10]; exact .inr (.inr ⟨by simp, by simp, fun k => rfl⟩)
    · rw [h9]
      refine .inl ⟨rfl, ⟨h1, h2⟩, TabS.counts_true.2 ⟨hv, h6⟩, fun k => ?_⟩
      have hi : ∀ x : Int, ({ tb with first := tb.first ++ [((v.who, v.slot / tb.slots), v.target)], latest := tb.latest.set v.who.toNat (some v) } : TabS).isV x = tb.isV x := fun x => by simp [TabS.isV]
      have hc : ({ tb with first := tb.first ++ [((v.who, v.slot / tb.slots), v.target)], latest := tb.latest.set v.who.toNat (some v) } : TabS).counts (k : Int) = tb.counts (k : Int) := by
        unfold TabS.counts; rw [hi]
      unfold effT updE
      rw [hc]
      by_cases e : k = v.who.toNat
      · have ek : (k : Int) = v.who := by omega
        rw [if_pos e, ek, if_pos (TabS.counts_true.2 ⟨hv, h6⟩)]
        unfold TabS.vote
        rw [hi, if_pos hv]
        show ((tb.latest.set v.who.toNat (some v)).getD v.who.toNat none).map _ = _
        rw [getD_set_self _ _ _ _ hlt]; rfl
      · rw [if_neg e]
        unfold TabS.vote
        rw [hi]
        show (if _ then (if _ then (tb.latest.set v.who.toNat (some v)).getD ((k : Int)).toNat none else none).map _ else _) = _
        rw [Int.toNat_natCast, getD_set_ne _ _ _ _ _ (fun q => e q.symm)]
        rfl
theorem forget_eff (tb : TabS) (s : Int) : effT (tb.forget s) = effT tb := by
  funext k
  unfold effT
  obtain ⟨h1, h2⟩ := TabS.forget_ends tb s (k : Int)
  rw [h1, h2]
theorem new_eff {n : Nat} {sl : Int} : effT (TabS.new n sl) = fun _ => none := by
  funext k
  unfold effT TabS.vote
  split
  · split
    · simp [TabS.new, List.getD_eq_getElem?_getD, List.getElem?_replicate]; split <;> rfl
    · rfl
  · rfl
theorem ownE_none (ns : List Node) : ownE vs (fun _ => none) ns = growO ns.length [] := by
  refine oA_ext (by rw [ownE_len, growO_len (Nat.zero_le _)]) fun j => ?_
  rw [grow_oA, oA_out (o := ([] : List Int)) (Nat.zero_le _)]
  rcases Nat.lt_or_ge j ns.length with hj | hj
  · rw [ownE_at hj]; exact sg_zero fun w _ => by unfold shareE; rw [if_neg (by simp)]
  · rw [oA_out (by rw [ownE_len]; exact hj)]
end
end Go.SL

set_option linter.unusedVariables false
set_option linter.unusedSimpArgs false
namespace Go.SL
structure BookS where
  t : TreeS
  tb : TabS
def bName (g : Root) (n : Int) : Root := if n = 0 then g else nameR n
/-- a vote is unknown: its block isn't there, or is of a later slot -/
def unkB (t : TreeS) (v : Vote) : Bool := match idxOf t.nodes v.target with | some i => decide (v.slot < slA t.nodes i) | none => true
def BookS.take (b : BookS) (v : Vote) : Int × TabS := if unkB b.t v = true then (6, b.tb) else b.tb.take v
def keepT (t : TreeS) (r : Root) : Int × TreeS := match idxOf t.nodes r with | some a => (0, prT t a) | none => (7, t)
def stepB (g : Root) (b : BookS) (a : VAct) : BookS :=
  if a.kind = 0 then { b with t := (b.t.add (bName g a.root) (bName g a.parent) a.slot).2 }
  else if a.kind = 1 then { b with tb := (b.take ⟨a.who, a.slot, bName g a.root⟩).2 }
  else if a.kind = 2 then { b with t := (keepT b.t (bName g a.root)).2 }
  else { b with tb := b.tb.forget a.slot }
def newB (g : Root) (nodes : Int) (n : Nat) (ep : Int) : BookS := ⟨TreeS.new g 0 nodes, TabS.new n ep⟩
def runB (b0 : BookS) (g : Root) (xs : List VAct) : BookS := xs.foldl (stepB g) b0
theorem runB_succ {b0 : BookS} {g : Root} {xs : List VAct} {i : Nat} (h : i < xs.length) : runB b0 g (xs.take (i + 1)) = stepB g (runB b0 g (xs.take i)) xs[i] := by
  unfold runB
  rw [List.take_succ_eq_append_getElem h, List.foldl_append]
  rfl
structure OKB (n : Nat) (b : BookS) : Prop where
  wf : b.t.WF
  tw : b.tb.WF
  ln : b.tb.latest.length = n
theorem OKB.take {n : Nat} {b : BookS} (h : OKB n b) (v : Vote) : OKB n { b with tb := (b.take v).2 } := by
  unfold BookS.take
  split
  · exact ⟨h.wf, h.tw, h.ln⟩
  · exact ⟨h.wf, h.tw.take v, by show (b.tb.take v).2.latest.length = n; rw [(TabS.take_slots b.tb v).2]; exact h.ln⟩
theorem keepT_wf {t : TreeS} (h : t.WF) (r : Root) : (keepT t r).2.WF := by
  unfold keepT
  split
  · rename_i a ha; exact prT_wf h (idxOf_lt ha)
  · exact h
theorem OKB.step {n : Nat} {b : BookS} {g : Root} (h : OKB n b) (a : VAct) : OKB n (stepB g b a) := by
  unfold stepB
  split
  · exact ⟨h.wf.add _ _ _, h.tw, h.ln⟩
  · split
    · exact h.take _
    · split
      · exact ⟨keepT_wf h.wf _, h.tw, h.ln⟩
      · exact ⟨h.wf, h.tw.forget _, by show (b.tb.forget a.slot).latest.length = n; rw [(TabS.forget_slots b.tb a.slot).2.1]; exact h.ln⟩
theorem OKB.run {n : Nat} {b0 : BookS} {g : Root} (h0 : OKB n b0) (xs : List VAct) : OKB n (runB b0 g xs) := by
  have key : ∀ m, m ≤ xs.length → OKB n (runB b0 g (xs.take m)) := by
    intro m
    induction m with
    | zero => intro _; exact h0
    | succ m ih => intro hm; rw [runB_succ (by omega)]; exact (ih (by omega)).step _
  have := key xs.length (Nat.le_refl _)
  rwa [List.take_length] at this
theorem OKB.new {g : Root} {nodes ep : Int} {n : Nat} (h1 : 1 ≤ nodes) (h2 : nodes ≤ 256) (h3 : n ≤ 64) (h4 : 1 ≤ ep) (h5 : ep ≤ 32) : OKB n (newB g nodes n ep) :=
  ⟨TreeS.WF.new h1 h2 (by decide) (by decide), TabS.WF.new h3 h4 h5, by simp [newB, TabS.new]⟩
/-- own weights, of a book -/
def ownB (vs : List Val) (b : BookS) : List Int := ownE vs (effT b.tb) b.t.nodes
/-- what a vote does to the weights: first the old one is taken away, then the new one is put -/
theorem take_puts {vs : List Val} (hs : StkOK vs) {t : TreeS} (ht : t.WF) {tb : TabS} (hb : tb.WF) (hn : tb.latest.length = vs.length) (v : Vote) {old : Root} {had : Int}
    (hold : old = ((tb.vote v.who).getD Vote.zero).target) (hhad : had = if tb.counts v.who = true ∧ (tb.vote v.who).isSome = true then stk vs v.who.toNat else 0) :
    ((tb.take v).1 = 0 → putO t (putO t (ownE vs (effT tb) t.nodes) old (-had)) v.target (stk vs v.who.toNat) = ownE vs (effT (tb.take v).2) t.nodes ∧ OwnOK (putO t (ownE vs (effT tb) t.nodes) old (-had)) ∧ (putO t (ownE vs (effT tb) t.nodes) old (-had)).length = t.nodes.length) ∧
    ((tb.take v).1 = 2 → putO t (ownE vs (effT tb) t.nodes) old (-had) = ownE vs (effT (tb.take v).2) t.nodes) ∧
    ((tb.take v).1 ≠ 0 → (tb.take v).1 ≠ 2 → ownE vs (effT (tb.take v).2) t.nodes = ownE vs (effT tb) t.nodes) := by
  have less : 0 ≤ v.who ∧ v.who < tb.latest.length → tb.counts v.who = true → putO t (ownE vs (effT tb) t.nodes) old (-had) = ownE vs (updE (effT tb) v.who.toNat none) t.nodes := by
    intro h1 h2
    have ew : ((v.who.toNat : Nat) : Int) = v.who := by omega
    have he : effT tb v.who.toNat = (tb.vote v.who).map (·.target) := by unfold effT; rw [ew, if_pos h2]
    cases hv : tb.vote v.who with
    | none =>
      rw [hv] at he hhad
      rw [hhad, if_neg (by simp), updE_self (show effT tb v.who.toNat = none by rw [he]; rfl)]
      exact put_zero hs ht
    | some o =>
      rw [hv] at he hhad hold
      rw [hhad, if_pos ⟨h2, rfl⟩, hold]
      exact put_less hs ht (by omega) he
  rcases take_eff v hb with ⟨h1, h2, h3, h4⟩ | ⟨h1, h2, h3, h4⟩ | ⟨h1, h2, h3⟩
  · refine ⟨fun _ => ?_, fun q => (by rw [h1] at q; cases q), fun q => absurd h1 q⟩
    rw [less h2 h3]
    refine ⟨?_, ownE_ok hs ht, ownE_len _ _ _⟩
    rw [put_more hs ht (by omega) (updE_at none), updE_updE]
    exact (ownE_congr (fun w _ => h4 w) _).symm
  · refine ⟨fun q => (by rw [h1] at q; cases q), fun _ => ?_, fun _ q => absurd h1 q⟩
    rw [less h2 h3]
    exact (ownE_congr (fun w _ => h4 w) _).symm
  · exact ⟨fun q => absurd q h1, fun q => absurd q h2, fun _ _ => ownE_congr (fun w _ => h3 w) _⟩
end Go.SL

set_option linter.unusedVariables false
set_option linter.unusedSimpArgs false
namespace Go.SL
def cntE (vs : List Val) (p : Nat → Bool) (k : Nat) : Int := sg (fun w => if p w = true then stk vs w else 0) k
/-- votes, of a book whose blocks stay -/
def runV (t : TreeS) (tb : TabS) (xs : List Vote) : TabS := xs.foldl (fun tb v => (BookS.take ⟨t, tb⟩ v).2) tb
end Go.SL

set_option linter.unusedVariables false
set_option linter.unusedSimpArgs false
namespace Go.SL
open Go.Proofs

def stakeV (vs : List Val) (tb : TabS) (who : Int) (r : Root) : Int := match tb.vote who with | some v => if tb.counts who = true ∧ v.target = r then stk vs who.toNat else 0 | none => 0
theorem stakeV_no1 {vs : List Val} {tb : TabS} {who : Int} {r : Root} (h : (tb.vote who).isSome = false) : stakeV vs tb who r = 0 := by
 unfold stakeV; cases hv : tb.vote who with
 | none => rfl
 | some v => rw [hv] at h; cases h
theorem stakeV_no2 {vs : List Val} {tb : TabS} {who : Int} {r : Root} (h : tb.counts who = false) : stakeV vs tb who r = 0 := by
 unfold stakeV; cases hv : tb.vote who with
 | none => rfl
 | some v => dsimp only; rw [if_neg (fun q => by rw [h] at q; cases q.1)]
theorem stakeV_no3 {vs : List Val} {tb : TabS} {who : Int} {r : Root} (h : ((tb.vote who).getD Vote.zero).target ≠ r) : stakeV vs tb who r = 0 := by
 unfold stakeV; cases hv : tb.vote who with
 | none => rfl
 | some v => dsimp only; rw [hv] at h; rw [if_neg (fun q => h q.2)]
theorem stakeV_yes {vs : List Val} {tb : TabS} {who : Int} {r : Root} (h1 : (tb.vote who).isSome = true) (h2 : tb.counts who = true) (h3 : ((tb.vote who).getD Vote.zero).target = r) : stakeV vs tb who r = stk vs who.toNat := by
 unfold stakeV; cases hv : tb.vote who with
 | none => rw [hv] at h1; cases h1
 | some v => dsimp only; rw [hv] at h3; rw [if_pos ⟨h2, h3⟩]
theorem stakeV_share {vs : List Val} {tb : TabS} {w : Nat} {r : Root} : stakeV vs tb (w : Int) r = shareE vs (effT tb) r w := by
 unfold stakeV shareE effT
 cases hv : tb.vote (w : Int) with
 | none => dsimp only; split <;> simp
 | some v =>
  dsimp only
  by_cases hc : tb.counts (w : Int) = true
  ·have e : Option.map (fun x : Vote => x.target) (some v) = some v.target := rfl
   rw [if_pos hc, e]
   by_cases hr : v.target = r
   ·rw [if_pos ⟨hc, hr⟩, if_pos (by rw [hr]), Int.toNat_natCast]
   ·rw [if_neg (fun q => hr q.2), if_neg (fun q => hr (Option.some.inj q))]
  ·rw [if_neg (fun q => hc q.1), if_neg hc, if_neg (by simp)]
theorem counts_rg {tb : TabS} {who : Int} (h : tb.counts who = true) : 0 ≤ who ∧ who < tb.latest.length := TabS.isV_iff.1 (TabS.counts_true.1 h).1
theorem add_err {t : TreeS} {r p : Root} {slot : Int} (h : (t.add r p slot).1 ≠ 0) : (t.add r p slot).2 = t := by
 unfold TreeS.add at h ⊢
 repeat' split
 all_goals first | rfl | skip
 all_goals simp_all

set_option maxRecDepth 100000 in
set_option maxHeartbeats 1000000 in
theorem stake_calls {w0 w : World} {l : List HProp} (pb pt pw pv : Nat) (ao : Option Addr) (c : Nat) (xs : List Val) (n1 n2 n3 n4 n5 n6 n7 n8 n9 n10 n11 : Int) (tb : TabS) (who : Int) (r : Root) (hs : Sat w0 w ((Blk pb (.cells #[.slice ao xs.length c, .int .i64 n1, .int .i64 n2, .int .i64 n3, .int .i64 n4, .int .i64 n5, .int .i64 n6, .int .i64 n7, .int .i64 n8, .int .i64 n9, .int .i64 n10, .int .i64 n11, .pointer (some ⟨pt, 0, none⟩), .pointer (some ⟨pw, 0, none⟩), .pointer (some ⟨pv, 0, none⟩)] 131 (0, 0))) :: (TabObj pv tb) :: l)) (hn : tb.latest.length = xs.length) (hr : Rds w0 l encVal ao xs) :
  Calls Try.prog 73 #[.pointer (some ⟨pb, 0, none⟩), .int .i64 who, .agg (rootC r).toArray] w (Ret w0 fun v l' => v = .int .i64 (stakeV xs tb who r) ∧ l' = Blk pb (.cells #[.slice ao xs.length c, .int .i64 n1, .int .i64 n2, .int .i64 n3, .int .i64 n4, .int .i64 n5, .int .i64 n6, .int .i64 n7, .int .i64 n8, .int .i64 n9, .int .i64 n10, .int .i64 n11, .pointer (some ⟨pt, 0, none⟩), .pointer (some ⟨pw, 0, none⟩), .pointer (some ⟨pv, 0, none⟩)] 131 (0, 0)) :: TabObj pv tb :: l) := by
 refine calls_enter Try.func73 rfl rfl rfl hs ?_
 refine Zj ?_; intro bx1
 refine Z8 ?_
 refine Z1v ?_
 refine oq (op_field fld_131_3 rfl) ?_
 refine oq (op_ld 1 sc_79 rfl rfl rfl) ?_
 refine Z4 ?_
 refine Zs ?_
 refine oi (os_call cb_41 rfl (fun w s => TVote_calls _ _ _  s )) ?_; rintro _ _ ⟨rfl, rfl⟩
 refine Z3r ?_
 refine Z9x ?_; intro bx2
 refine Z78 ?_
 refine Zb ?_
 refine Z3v ?_
 refine Z5 ?_
 refine ol_split 20 rfl (fun hb1 => ?_) (fun hb1 => ?_)
 ·have hp1 := hb1
  (try simp only [bn] at hp1)
  have hs1 : (tb.vote who).isSome = false := by simpa using hb1
  refine Z3o ?_
  refine Z4t ?_
  refine Z20 ?_
  refine Z5p ?_
  refine Z49 ?_
  refine Z6b ?_
  refine Z3w ?_
  exact px_ret1 rfl (v := .int _ _) rfl (fun _ s => (((s.del 2).del 0).pull 1)) ⟨congrArg (Value.int .i64) ((stakeV_no1 hs1).symm), rfl⟩
 have hp1 := hb1
 (try simp only [bn] at hp1)
 have hs1 : (tb.vote who).isSome = true := by simpa using hb1
 refine Z50 ?_
 refine Z51 ?_
 refine ol_q (wn_some rfl rfl rfl hb1 rfl) (op_field fld_131_3 rfl) rfl ?_
 refine ol_q (wn_some rfl rfl rfl hb1 rfl) (op_ld 3 sc_79 rfl rfl rfl) rfl ?_
 refine Z2q ?_
 refine Z9 ?_
 refine ol_i (wn_some rfl rfl rfl hb1 rfl) (os_call cb_40 rfl (fun w s => Counts_calls _ _ _  s )) rfl ?_; rintro _ _ ⟨rfl, rfl⟩
 refine ol_q (wn_some rfl rfl rfl hb1 rfl) (op_not rfl) rfl ?_
 refine Z21 ?_
 refine Z5 ?_
 refine ol_split 29 rfl (fun hb2 => ?_) (fun hb2 => ?_)
 ·have hp2 := hb2
  (try simp only [bn] at hp2)
  have hs2 : tb.counts who = false := by simpa using hb2
  refine Z1g ?_
  refine Z1g ?_
  refine Z37 ?_
  refine Z3w ?_
  exact px_ret1 rfl (v := .int _ _) rfl (fun _ s => (((s.del 2).del 1).pull 1)) ⟨congrArg (Value.int .i64) ((stakeV_no2 hs2).symm), rfl⟩
 have hp2 := hb2
 (try simp only [bn] at hp2)
 have hs2 : tb.counts who = true := by simpa using hb2
 have hrg := counts_rg hs2
 refine ol_q (wn_some rfl rfl rfl hb2 rfl) (op_field fld_84_2 rfl) rfl ?_
 refine ol_q (wn_some rfl rfl rfl hb2 rfl) (op_lda (L := rootC _) 1 ag_24 rfl rfl (voteC_af2 _) (by simp [voteC_len])) rfl ?_
 refine ol_q (wn_some rfl rfl rfl hb2 rfl) (op_lda (L := rootC _) 2 ag_24 rfl rfl (rootC_take' _) (by simp [rootC_len])) rfl ?_
 refine ol_q (wn_some rfl rfl rfl hb2 rfl) (op_neroot _ _ rB_24 rfl rfl) rfl ?_
 refine Z2v ?_
 refine Z1 ?_
 refine cd_cond rfl (fun hb3 => ?_) (fun hb3 => ?_)
 ·have hp3 := hb3
  (try simp only [bn] at hp3)
  have hs3 : ((tb.vote who).getD Vote.zero).target ≠ r := by simpa using hb3
  refine Z1y ?_
  exact px_ret1 rfl (v := .int _ _) rfl (fun _ s => (((s.del 2).del 1).pull 1)) ⟨congrArg (Value.int .i64) ((stakeV_no3 hs3).symm), rfl⟩
 have hp3 := hb3
 (try simp only [bn] at hp3)
 have hs3 : ((tb.vote who).getD Vote.zero).target = r := by simpa using hb3
 refine Za ?_
 refine Z1v ?_
 refine oq (op_field fld_131_0 rfl) ?_
 refine Z44 ?_
 refine oq (op_ld 3 sc_63 rfl rfl rfl) ?_
 refine Z4 ?_
 refine oq (op_index who.toNat sB_63 rfl rfl (by omega) ((((hr.cons _).cons _).cons _).cons _) rfl (by omega)) ?_
 refine oq (op_fielde fld_78_0 rfl ((((hr.cons _).cons _).cons _).cons _) (by omega)) ?_
 refine oq (op_ldf 0 sc_3 ((((hr.cons _).cons _).cons _).cons _) rfl (by omega) rfl (valC_l0 _)) ?_
 refine Zp ?_
 exact px_ret1 rfl (v := .int _ _) rfl (fun _ s => (((s.del 2).del 1).pull 1)) ⟨congrArg (Value.int .i64) (((stakeV_yes hs1 hs2 hs3).trans (stk_get (by omega))).symm), rfl⟩

set_option maxRecDepth 100000 in
set_option maxHeartbeats 1000000 in
theorem all_calls {w0 w : World} {l : List HProp} (pb pt pw pv : Nat) (ao : Option Addr) (c : Nat) (xs : List Val) (n1 n2 n3 n4 n5 n6 n7 n8 n9 n10 n11 : Int) (tb : TabS) (r : Root) (hs : Sat w0 w ((Blk pb (.cells #[.slice ao xs.length c, .int .i64 n1, .int .i64 n2, .int .i64 n3, .int .i64 n4, .int .i64 n5, .int .i64 n6, .int .i64 n7, .int .i64 n8, .int .i64 n9, .int .i64 n10, .int .i64 n11, .pointer (some ⟨pt, 0, none⟩), .pointer (some ⟨pw, 0, none⟩), .pointer (some ⟨pv, 0, none⟩)] 131 (0, 0))) :: (TabObj pv tb) :: l)) (hn : tb.latest.length = xs.length) (hsk : StkOK xs) (hr : Rds w0 l encVal ao xs) :
  Calls Try.prog 88 #[.pointer (some ⟨pb, 0, none⟩), .agg (rootC r).toArray] w (Ret w0 fun v l' => v = .int .i64 (allE xs (effT tb) r) ∧ l' = Blk pb (.cells #[.slice ao xs.length c, .int .i64 n1, .int .i64 n2, .int .i64 n3, .int .i64 n4, .int .i64 n5, .int .i64 n6, .int .i64 n7, .int .i64 n8, .int .i64 n9, .int .i64 n10, .int .i64 n11, .pointer (some ⟨pt, 0, none⟩), .pointer (some ⟨pw, 0, none⟩), .pointer (some ⟨pv, 0, none⟩)] 131 (0, 0)) :: TabObj pv tb :: l) := by
 have htw := hs.drop.tabWF
 have hn1 := htw.n1
 refine calls_enter Try.func88 rfl rfl rfl hs ?_
 refine Zj ?_; intro bx1
 refine Z8 ?_
 refine Z0 ?_
 refine Z5a ?_
 refine Zr ?_
 refine oq (op_field fld_131_0 rfl) ?_
 refine Z44 ?_
 refine oq (op_ld 1 sc_63 rfl rfl rfl) ?_
 refine Z4l ?_
 refine Z1l ?_
 refine cd_loop2 (α := Nat) [(5, 6), (13, 22)] (fun x => [(5, .int .i64 (sg (shareE xs (effT tb) r) x)), (13, .int .i64 (x : Int))]) (fun _ => _) (fun x => x ≤ xs.length) (fun x => xs.length - x) 0 (Nat.zero_le _) ⟨rfl, rfl, trivial⟩ (fun _ s => s) ?_
 rintro j hj f; (try dsimp only at hj ⊢)
 refine Zx ?_
 refine cd_cond rfl (fun hb1 => ?_) (fun hb1 => ?_)
 ·have hp1 := hb1
  (try simp only [bn] at hp1)
  have hj1 : j < xs.length := by omega
  have h1 := sg_nonneg (f := shareE xs (effT tb) r) (m := j) (fun q _ => share_nn hsk)
  have h2 := sg_mono (f := shareE xs (effT tb) r) (show j + 1 ≤ xs.length by omega) (fun q _ => share_nn hsk)
  have h3 := all_le (E := effT tb) (r := r) hsk
  have h4 := hsk.tt
  have h5 := share_nn (E := effT tb) (r := r) (w := j) hsk
  have h6 := sg_succ (f := shareE xs (effT tb) r) (m := j)
  unfold allE at h3
  refine Z2t ?_
  refine Z8 ?_
  refine Z1b ?_
  refine Z4 ?_
  refine Z1p ?_
  refine Z4 ?_
  refine Z2k ?_
  refine Zs ?_
  refine Zs ?_
  refine oi (os_call cb_73 rfl (fun w s => stake_calls _ _ _ _ _ _ _ _ _ _ _ _ _ _ _ _ _ _ _ _ _  s (by assumption) (hr.cons _))) ?_; rintro _ _ ⟨rfl, rfl⟩; rw [stakeV_share]
  refine Zb7 ?_
  refine Z5o ?_
  refine px_loop2 (j + 1) (by omega) (by (try dsimp only); omega) ⟨congrArg (Value.int .i64) sg_succ.symm, congrArg (Value.int .i64) (by simp), trivial⟩ ?_ (fun _ s => (((s.pull 1).pull 1).pull 2))
  exact Z2
 have hp1 := hb1
 (try simp only [bn] at hp1)
 have hje : j = xs.length := by omega
 refine Z1e ?_
 refine Z3b ?_
 exact px_ret1 rfl (v := .int _ _) rfl (fun _ s => (s.del 0)) ⟨by rw [hje]; rfl, rfl⟩

set_option maxRecDepth 100000 in
set_option maxHeartbeats 1000000 in
theorem put_calls {w0 w : World} {l : List HProp} (pb pt pw pv : Nat) (ao : Option Addr) (c : Nat) (xs : List Val) (n1 n2 n3 n4 n5 n6 n7 n8 n9 n10 n11 : Int) (t : TreeS) (o : List Int) (r : Root) (k : Int) (hs : Sat w0 w ((Blk pb (.cells #[.slice ao xs.length c, .int .i64 n1, .int .i64 n2, .int .i64 n3, .int .i64 n4, .int .i64 n5, .int .i64 n6, .int .i64 n7, .int .i64 n8, .int .i64 n9, .int .i64 n10, .int .i64 n11, .pointer (some ⟨pt, 0, none⟩), .pointer (some ⟨pw, 0, none⟩), .pointer (some ⟨pv, 0, none⟩)] 131 (0, 0))) :: (TreeObj pt t) :: (WObj pw pt t.nodes o) :: l)) (h1 : o.length ≤ t.nodes.length) (hok : OwnOK o) :
  Calls Try.prog 75 #[.pointer (some ⟨pb, 0, none⟩), .agg (rootC r).toArray, .int .i64 k] w (Ret w0 fun v l' => v = .tuple #[] ∧ l' = Blk pb (.cells #[.slice ao xs.length c, .int .i64 n1, .int .i64 n2, .int .i64 n3, .int .i64 n4, .int .i64 n5, .int .i64 n6, .int .i64 n7, .int .i64 n8, .int .i64 n9, .int .i64 n10, .int .i64 n11, .pointer (some ⟨pt, 0, none⟩), .pointer (some ⟨pw, 0, none⟩), .pointer (some ⟨pv, 0, none⟩)] 131 (0, 0)) :: TreeObj pt t :: WObj pw pt t.nodes (putO t o r k) :: l) := by
 have hw := hs.drop.treeWF
 refine calls_enter Try.func75 rfl rfl rfl hs ?_
 refine Zj ?_; intro bx1
 refine Z39 ?_
 refine Z95 ?_
 refine Z6 ?_
 refine Za5 ?_
 refine Z6z ?_
 refine Z17 ?_
 refine rg_i (wn_none rfl) (os_back (os_pull2 (os_call cb_31 rfl (fun w s => Place_calls _ _ _  s ))) (fun _ s => ((((s.pull 3).pull 1).pull 3).pull 3))) rfl rfl ?_; rintro _ _ ⟨rfl, rfl⟩; refine ⟨[], rfl, ?_⟩
 refine rg_q (wn_none rfl) (op_ge rfl rfl) rfl rfl ?_
 refine Z1a ?_
 refine cd_cond rfl (fun hb1 => ?_) (fun hb1 => ?_)
 ·have hp1 := hb1
  (try simp only [bn] at hp1)
  have hpo : (applyO t.nodes o [⟨r, k⟩]).2 = putO t o r k := by unfold putO; rw [if_neg (by omega)]
  refine cd_pull2 ?_
  refine cd_pull3 ?_
  refine cd_draw (M := [_, _]) mx [7, 8] (by kernel_rfl) ?_
  refine Z6 ?_
  refine Za6 ?_
  refine Za7 ?_
  refine Z17 ?_
  refine Ze ?_
  refine rg_q (wn_none rfl) (op_build (L := deltaC _) (vs := [(0, .agg (rootC _).toArray), (1, .int _ _)]) bB_102 rfl ⟨⟨by simp [Value.cells, rootC_len], by rw [deltaC_len]; rfl⟩, ⟨rfl, by rw [deltaC_len]; rfl⟩, trivial⟩ ((deltaC_b0 _ _ _).trans ((deltaC_b1 _ _ _).trans rfl))) rfl rfl ?_
  refine rg_i (wn_none rfl) (os_bslice (E := encDelta) [_] (ys := [_]) sB_97 zv_102 rfl rfl rfl rfl (by decide)) rfl rfl ?_; rintro _ _ ⟨ao1, rfl, rfl⟩; refine ⟨[_, _, _], rfl, ?_⟩
  refine rg_i (wn_none rfl) (os_pull1 (os_pull2 (os_call cb_52 rfl (fun w s => Apply_calls _ _ _ _ _ _ _  s h1 hok (rds_row 0 rfl rfl) (by show 1 ≤ 1000; decide))))) rfl rfl ?_; rintro _ _ ⟨rfl, rfl⟩; rw [hpo]; refine ⟨[_, _, _], rfl, ?_⟩
  refine rg_nil3 ?_
  exact px_end0 rfl (fun _ s => (((((s.del 3).del 2).pull 1).pull 1).pull 2)) ⟨rfl, rfl⟩
 have hp1 := hb1
 (try simp only [bn] at hp1)
 have hpo : putO t o r k = o := by unfold putO; rw [if_pos (by omega)]
 rw [hpo]
 refine cd_skip ?_
 exact px_end0 rfl (fun _ s => (s.del 0)) ⟨rfl, rfl⟩
end Go.SL

set_option linter.unusedVariables false
set_option linter.unusedSimpArgs false
namespace Go.SL
open Go.Proofs

theorem wobj_add {pw pt : Nat} {t : TreeS} (hw : t.WF) {o : List Int} (h : o.length ≤ t.nodes.length) (r q : Root) (slot : Int) : WObj pw pt t.nodes o = WObj pw pt (t.add r q slot).2.nodes o := by
 show WRaw _ _ _ (sumL _ _) _ _ = WRaw _ _ _ (sumL _ _) _ _
 rw [sumL_add hw h, bestL_add (by rw [sumL_len]; exact h), leafL_add (by rw [sumL_len]; exact h)]
theorem stakeV_had {vs : List Val} {tb : TabS} {who : Int} : stakeV vs tb who ((tb.vote who).getD Vote.zero).target = if tb.counts who = true ∧ (tb.vote who).isSome = true then stk vs who.toNat else 0 := by
 unfold stakeV
 cases hv : tb.vote who with
 | none => dsimp only; rw [if_neg (fun q => by cases q.2)]
 | some v =>
  dsimp only [Option.getD_some]
  by_cases hc : tb.counts who = true
  ·rw [if_pos ⟨hc, rfl⟩, if_pos ⟨hc, rfl⟩]
  ·rw [if_neg (fun q => hc q.1), if_neg (fun q => hc q.1)]
theorem had_rg {vs : List Val} (hs : StkOK vs) {tb : TabS} (hn : tb.latest.length = vs.length) {who : Int} {p : Prop} [Decidable p] (hp : p → tb.counts who = true) : 0 ≤ (if p then stk vs who.toNat else 0) ∧ (if p then stk vs who.toNat else 0) < 4611686018427387904 := by
 by_cases h : p
 ·rw [if_pos h]; have := counts_rg (hp h); exact stk_lt hs (by omega)
 ·rw [if_neg h]; decide
theorem stakeV_new {vs : List Val} {tb : TabS} (hb : tb.WF) {v : Vote} (h : (tb.take v).1 = 0) : stakeV vs (tb.take v).2 v.who v.target = stk vs v.who.toNat := by
 obtain ⟨h1, h2, h3, h4⟩ := TabS.once tb v hb
 obtain ⟨e1, _⟩ := h3 h
 have hc : tb.counts v.who = true := by
  rcases take_eff v hb with ⟨_, _, q, _⟩ | ⟨q, _⟩ | ⟨q, _⟩
  ·exact q
  ·rw [h] at q; cases q
  ·exact absurd h q
 have hc2 : (tb.take v).2.counts v.who = true := by
  cases q : (tb.take v).2.counts v.who
  ·have := h2.2 ⟨hc, q⟩; rw [h] at this; cases this
  ·rfl
 exact stakeV_yes (by rw [e1]; rfl) hc2 (by rw [e1]; rfl)
theorem unk_none {t : TreeS} {v : Vote} (h : idxOf t.nodes v.target = none) : unkB t v = true := by unfold unkB; rw [h]
theorem unk_some {t : TreeS} {v : Vote} {j : Nat} (h : idxOf t.nodes v.target = some j) : unkB t v = decide (v.slot < slA t.nodes j) := by unfold unkB; rw [h]
theorem btake_unk {t : TreeS} {tb : TabS} {v : Vote} (h : unkB t v = true) : BookS.take ⟨t, tb⟩ v = (6, tb) := if_pos h
theorem btake_yes {t : TreeS} {tb : TabS} {v : Vote} (h : unkB t v = false) : BookS.take ⟨t, tb⟩ v = tb.take v := if_neg (by rw [h]; simp)

set_option maxRecDepth 100000 in
set_option maxHeartbeats 1000000 in
theorem BAdd_calls {w0 w : World} {l : List HProp} (pb pt pw pv : Nat) (ao : Option Addr) (c : Nat) (xs : List Val) (n1 n2 n3 n4 n5 n6 n7 n8 n9 n10 n11 : Int) (t : TreeS) (tb : TabS) (r q : Root) (slot : Int) (hs : Sat w0 w ((Blk pb (.cells #[.slice ao xs.length c, .int .i64 n1, .int .i64 n2, .int .i64 n3, .int .i64 n4, .int .i64 n5, .int .i64 n6, .int .i64 n7, .int .i64 n8, .int .i64 n9, .int .i64 n10, .int .i64 n11, .pointer (some ⟨pt, 0, none⟩), .pointer (some ⟨pw, 0, none⟩), .pointer (some ⟨pv, 0, none⟩)] 131 (0, 0))) :: (TreeObj pt t) :: (WObj pw pt t.nodes (ownE xs (effT tb) t.nodes)) :: (TabObj pv tb) :: l)) (hn : tb.latest.length = xs.length) (hsk : StkOK xs) (hr : Rds w0 l encVal ao xs) :
  Calls Try.prog 64 #[.pointer (some ⟨pb, 0, none⟩), .agg (rootC r).toArray, .agg (rootC q).toArray, .int .i64 slot] w (Ret w0 fun v l' => v = .int .i64 (t.add r q slot).1 ∧ l' = Blk pb (.cells #[.slice ao xs.length c, .int .i64 n1, .int .i64 n2, .int .i64 n3, .int .i64 n4, .int .i64 n5, .int .i64 n6, .int .i64 n7, .int .i64 n8, .int .i64 n9, .int .i64 n10, .int .i64 n11, .pointer (some ⟨pt, 0, none⟩), .pointer (some ⟨pw, 0, none⟩), .pointer (some ⟨pv, 0, none⟩)] 131 (0, 0)) :: TreeObj pt (t.add r q slot).2 :: WObj pw pt (t.add r q slot).2.nodes (ownE xs (effT tb) (t.add r q slot).2.nodes) :: TabObj pv tb :: l) := by
 have hw := hs.drop.treeWF
 have hw2 := hw.add r q slot
 obtain ⟨_, yy, hyy⟩ := t.add_most r q slot
 have hll : t.nodes.length ≤ (t.add r q slot).2.nodes.length := by rw [hyy, List.length_append]; omega
 refine calls_enter Try.func64 rfl rfl rfl hs ?_
 refine Zj ?_; intro bx1
 refine Z2f ?_; intro bx2
 refine Z5a ?_
 refine Z67 ?_
 refine Z3a ?_
 refine Zn ?_
 refine cd_pull3 ?_
 refine Z7 ?_
 refine cd_draw (M := [_]) mx [7] (by kernel_rfl) ?_
 refine Z6 ?_
 refine Za5 ?_
 refine rg_q (wn_none rfl) (op_ld 2 sc_26 rfl rfl rfl) rfl rfl ?_
 refine rg_q (wn_none rfl) (op_lda (L := rootC _) 1 ag_24 rfl rfl (rootC_take' _) (by simp [rootC_len])) rfl rfl ?_
 refine Z17 ?_
 refine Ze ?_
 refine rg_i (wn_none rfl) (os_call cb_47 rfl (fun w s => Add_calls _ _ _ _ _  s )) rfl rfl ?_; rintro _ _ ⟨rfl, rfl⟩; refine ⟨[_], rfl, ?_⟩
 refine Z3t ?_
 refine Z18 ?_
 refine Z5c ?_
 refine cd_cond rfl (fun hb1 => ?_) (fun hb1 => ?_)
 ·have hp1 := hb1
  (try simp only [bn] at hp1)
  have hne : (t.add r q slot).1 ≠ 0 := by simpa using hb1
  have hte := add_err hne
  rw [hte]
  refine Z3b ?_
  refine Z13 ?_
  exact px_ret1 rfl (v := .int _ _) rfl (fun _ s => ((((((s.del 2).del 1).pull 3).pull 3).pull 2).pull 3)) ⟨rfl, rfl⟩
 have hp1 := hb1
 (try simp only [bn] at hp1)
 have h0 : (t.add r q slot).1 = 0 := by simpa using hb1
 refine Za ?_
 rw [wobj_add hw (Nat.le_of_eq (ownE_len _ _ _)) r q slot]
 refine cd_pull4 ?_
 refine Z7 ?_
 refine cd_drawe (M := [_, _]) mx [7, 9, 10] ?_
 refine Z22 ?_
 refine Z5y ?_
 refine e_q 2 rfl (wn_none rfl) (op_field fld_131_2 rfl) ?_
 refine e_q 3 rfl (wn_none rfl) (op_ld 2 sc_27 rfl rfl rfl) ?_
 refine e_q 4 rfl (wn_none rfl) (op_lda (L := rootC _) 1 ag_24 rfl rfl (rootC_take' _) (by simp [rootC_len])) ?_
 refine e_q 5 rfl (wn_none rfl) (op_move (v := .pointer _) rfl) ?_
 refine e_q 6 rfl (wn_none rfl) (op_lda (L := rootC _) 1 ag_24 rfl rfl (rootC_take' _) (by simp [rootC_len])) ?_
 refine Zt ?_
 refine ei_i rfl rfl (wn_none rfl) (os_back (os_pull5 (os_pull5 (os_call cb_88 rfl (fun w s => all_calls _ _ _ _ _ _ _ _ _ _ _ _ _ _ _ _ _ _ _ _  s (by assumption) (by assumption) ((((hr.cons _).cons _).cons _).cons _))))) (fun _ s => ((((((s.pull 1).pull 1).pull 5).pull 5).pull 5).pull 5))) rfl ?_; rintro _ _ ⟨rfl, rfl⟩; refine ⟨[_, _], rfl, ?_⟩
 refine e_q 8 rfl (wn_none rfl) (op_build (L := deltaC _) (vs := [(0, .agg (rootC _).toArray), (1, .int _ _)]) bB_102 rfl ⟨⟨by simp [Value.cells, rootC_len], by rw [deltaC_len]; rfl⟩, ⟨rfl, by rw [deltaC_len]; rfl⟩, trivial⟩ ((deltaC_b0 _ _ _).trans ((deltaC_b1 _ _ _).trans rfl))) ?_
 refine Z26 ?_
 refine ei_i rfl rfl (wn_none rfl) (os_bslice (E := encDelta) [_] (ys := [_]) sB_97 zv_102 rfl rfl rfl rfl (by decide)) rfl ?_; rintro _ _ ⟨ao1, rfl, rfl⟩; refine ⟨[_, _, _], rfl, ?_⟩
 refine Z1f ?_
 refine ei_i rfl rfl (wn_none rfl) (os_pull1 (os_pull2 (os_call cb_52 rfl (fun w s => Apply_calls _ _ _ _ _ _ _  s (by rw [ownE_len]; exact hll) (ownE_ok hsk hw) (rds_row 0 rfl rfl) (by show 1 ≤ 1000; decide))))) rfl ?_; rintro _ _ ⟨rfl, rfl⟩; rw [add_ownE hsk hw h0]; (try dsimp only); refine ⟨[_, _, _], rfl, ?_⟩
 refine e_q 11 rfl (wn_none rfl) (op_assign (v := .int _ _) rfl) ?_
 refine Z1t ?_
 exact px_ret1 rfl (v := .int _ _) rfl (fun _ s => (((((((s.del 4).del 3).del 2).pull 3).pull 2).pull 2).pull 3)) ⟨by rw [h0], rfl⟩

set_option maxRecDepth 100000 in
set_option maxHeartbeats 1000000 in
theorem BTake_calls {w0 w : World} {l : List HProp} (pb pt pw pv : Nat) (ao : Option Addr) (c : Nat) (xs : List Val) (n1 n2 n3 n4 n5 n6 n7 n8 n9 n10 n11 : Int) (t : TreeS) (tb : TabS) (u : Vote) (hs : Sat w0 w ((Blk pb (.cells #[.slice ao xs.length c, .int .i64 n1, .int .i64 n2, .int .i64 n3, .int .i64 n4, .int .i64 n5, .int .i64 n6, .int .i64 n7, .int .i64 n8, .int .i64 n9, .int .i64 n10, .int .i64 n11, .pointer (some ⟨pt, 0, none⟩), .pointer (some ⟨pw, 0, none⟩), .pointer (some ⟨pv, 0, none⟩)] 131 (0, 0))) :: (TreeObj pt t) :: (WObj pw pt t.nodes (ownE xs (effT tb) t.nodes)) :: (TabObj pv tb) :: l)) (hn : tb.latest.length = xs.length) (hsk : StkOK xs) (hr : Rds w0 l encVal ao xs) :
  Calls Try.prog 43 #[.pointer (some ⟨pb, 0, none⟩), .agg (voteC u).toArray] w (Ret w0 fun v l' => v = .int .i64 (BookS.take ⟨t, tb⟩ u).1 ∧ l' = Blk pb (.cells #[.slice ao xs.length c, .int .i64 n1, .int .i64 n2, .int .i64 n3, .int .i64 n4, .int .i64 n5, .int .i64 n6, .int .i64 n7, .int .i64 n8, .int .i64 n9, .int .i64 n10, .int .i64 n11, .pointer (some ⟨pt, 0, none⟩), .pointer (some ⟨pw, 0, none⟩), .pointer (some ⟨pv, 0, none⟩)] 131 (0, 0)) :: TreeObj pt t :: WObj pw pt t.nodes (ownE xs (effT (BookS.take ⟨t, tb⟩ u).2) t.nodes) :: TabObj pv (BookS.take ⟨t, tb⟩ u).2 :: l) := by
 have hw := hs.drop.treeWF
 have htw := ((hs.pull 3).tabWF)
 obtain ⟨had, hhad⟩ : ∃ h : Int, h = if tb.counts u.who = true ∧ (tb.vote u.who).isSome = true then stk xs u.who.toNat else 0 := ⟨_, rfl⟩
 have hs7 : stakeV xs tb u.who ((tb.vote u.who).getD Vote.zero).target = had := by rw [hhad]; exact stakeV_had
 have hrg := had_rg hsk hn (who := u.who) (p := tb.counts u.who = true ∧ (tb.vote u.who).isSome = true) (fun q => q.1)
 rw [← hhad] at hrg
 have htp := take_puts hsk hw htw hn u (old := ((tb.vote u.who).getD Vote.zero).target) (had := had) rfl hhad
 have hn2 : (tb.take u).2.latest.length = xs.length := by rw [(TabS.take_slots tb u).2]; exact hn
 refine calls_enter Try.func43 rfl rfl rfl hs ?_
 refine Z3z ?_; intro bx1
 refine Z67 ?_
 refine Z2c ?_
 rcases hix : idxOf t.nodes u.target with _ | j
 ·
  have hna : t.node (t.place u.target) = none := by unfold TreeS.place; rw [hix]; rfl
  have hpj : t.place u.target = -1 := by unfold TreeS.place; rw [hix]
  refine Z7 ?_
  refine cd_drawe (M := []) mx [10, 11, 15, 16] ?_
  refine Z22 ?_
  refine Z5y ?_
  refine e_q 2 rfl (wn_none rfl) (op_field fld_131_1 rfl) ?_
  refine e_q 3 rfl (wn_none rfl) (op_ld 1 sc_26 rfl rfl rfl) ?_
  refine Zbd ?_
  refine e_q 6 rfl (wn_none rfl) (op_field fld_131_1 rfl) ?_
  refine e_q 7 rfl (wn_none rfl) (op_ld 1 sc_26 rfl rfl rfl) ?_
  refine e_q 8 rfl (wn_none rfl) (op_field fld_84_2 rfl) ?_
  refine e_q 9 rfl (wn_none rfl) (op_lda (L := rootC _) 0 ag_24 rfl rfl (voteC_af2 _) (by simp [voteC_len])) ?_
  refine et_2 (i1 := 10) (i2 := 15) (by kernel_rfl) ?_ ?_
  ·
   refine Zc5 ?_
   refine et_2 (i1 := 11) (i2 := 15) (by kernel_rfl) ?_ ?_
   ·
    refine ei_i rfl rfl (wn_none rfl) (os_back (os_pull2 (os_call cb_24 rfl (fun w s => Node_calls _ _ _  s ))) (fun _ s => (((((s.pull 4).pull 4).pull 2).pull 4).pull 4))) rfl ?_; rintro _ _ ⟨rfl, rfl⟩; rw [hna]; refine ⟨[], rfl, ?_⟩
    refine Z7q ?_
    refine Z7r ?_
    refine Z7s ?_
    refine Z5z ?_
    refine Z7t ?_; intro bx2
    refine Z6e ?_
    refine Z7u ?_
    refine Z7v ?_
    refine Z16 ?_
    refine Z3v ?_
    refine Z5 ?_
    refine ol_split 30 rfl (fun hb1 => ?_) (fun hb1 => ?_)
    ·have hp1 := hb1
     (try simp only [bn] at hp1)
     have hunk := unk_none hix
     refine Z3o ?_
     refine Z8e ?_
     refine Z20 ?_
     refine Z3w ?_
     rw [btake_unk hunk]; (try dsimp only)
     exact Z7w
    have hp1 := hb1
    (try simp only [bn] at hp1)
    exact absurd hb1 (by simp)
   refine Z7t ?_; intro bx3
   refine Z2l ?_
   refine ei_i rfl rfl (wn_none rfl) (os_back (os_pull3 (os_call cb_24 rfl (fun w s => Node_calls _ _ _  s ))) (fun _ s => ((((((s.pull 5).pull 5).pull 2).pull 5).pull 5).pull 5))) rfl ?_; rintro _ _ ⟨rfl, rfl⟩; rw [hna]; refine ⟨[_], rfl, ?_⟩
   refine Z7q ?_
   refine Z7r ?_
   refine Z7s ?_
   refine Z6e ?_
   refine Z7u ?_
   refine Z7v ?_
   refine Z16 ?_
   refine Z3v ?_
   refine Z5 ?_
   refine ol_split 30 rfl (fun hb2 => ?_) (fun hb2 => ?_)
   ·have hp2 := hb2
    (try simp only [bn] at hp2)
    have hunk := unk_none hix
    refine Z1g ?_
    refine Z1g ?_
    refine Z5s ?_
    refine Z37 ?_
    refine Z3w ?_
    rw [btake_unk hunk]; (try dsimp only)
    exact Z7w
   have hp2 := hb2
   (try simp only [bn] at hp2)
   exact absurd hb2 (by simp)
  refine Z7t ?_; intro bx4
  refine Z1f ?_
  refine Zc6 ?_
  refine Z2l ?_
  refine ei_i rfl rfl (wn_none rfl) (os_back (os_pull3 (os_call cb_24 rfl (fun w s => Node_calls _ _ _  s ))) (fun _ s => ((((((s.pull 5).pull 5).pull 2).pull 5).pull 5).pull 5))) rfl ?_; rintro _ _ ⟨rfl, rfl⟩; rw [hna]; refine ⟨[_], rfl, ?_⟩
  refine Z7q ?_
  refine Z7r ?_
  refine Z7s ?_
  refine Z6e ?_
  refine Z7u ?_
  refine Z7v ?_
  refine Z16 ?_
  refine Z3v ?_
  refine Z5 ?_
  refine ol_split 30 rfl (fun hb3 => ?_) (fun hb3 => ?_)
  ·have hp3 := hb3
   (try simp only [bn] at hp3)
   have hunk := unk_none hix
   refine Z2p ?_
   refine Z2p ?_
   refine Z9d ?_
   refine Z4j ?_
   refine Z3w ?_
   rw [btake_unk hunk]; (try dsimp only)
   exact Z7w
  have hp3 := hb3
  (try simp only [bn] at hp3)
  exact absurd hb3 (by simp)
 have hjl := idxOf_lt hix
 have hpj : t.place u.target = (j : Int) := by unfold TreeS.place; rw [hix]
 have hna : t.node (t.place u.target) = t.nodes[j]? := by rw [hpj, TreeS.node_at]
 refine Z7 ?_
 refine cd_drawe (M := []) mx [10, 11, 15, 16] ?_
 refine Z22 ?_
 refine Z5y ?_
 refine e_q 2 rfl (wn_none rfl) (op_field fld_131_1 rfl) ?_
 refine e_q 3 rfl (wn_none rfl) (op_ld 1 sc_26 rfl rfl rfl) ?_
 refine Zbd ?_
 refine e_q 6 rfl (wn_none rfl) (op_field fld_131_1 rfl) ?_
 refine e_q 7 rfl (wn_none rfl) (op_ld 1 sc_26 rfl rfl rfl) ?_
 refine e_q 8 rfl (wn_none rfl) (op_field fld_84_2 rfl) ?_
 refine e_q 9 rfl (wn_none rfl) (op_lda (L := rootC _) 0 ag_24 rfl rfl (voteC_af2 _) (by simp [voteC_len])) ?_
 refine et_2 (i1 := 10) (i2 := 15) (by kernel_rfl) ?_ ?_
 ·
  refine Zc5 ?_
  refine et_2 (i1 := 11) (i2 := 15) (by kernel_rfl) ?_ ?_
  ·
   refine ei_i rfl rfl (wn_none rfl) (os_back (os_pull2 (os_call cb_24 rfl (fun w s => Node_calls _ _ _  s ))) (fun _ s => (((((s.pull 4).pull 4).pull 2).pull 4).pull 4))) rfl ?_; rintro _ _ ⟨rfl, rfl⟩; rw [hna]; refine ⟨[], rfl, ?_⟩
   refine Z7q ?_
   refine Z7r ?_
   refine Z7s ?_
   refine Z5z ?_
   refine Z7t ?_; intro bx5
   refine Z6e ?_
   refine Z7u ?_
   refine Z7v ?_
   refine Z16 ?_
   refine Z3v ?_
   refine Z5 ?_
   refine ol_split 30 rfl (fun hb4 => ?_) (fun hb4 => ?_)
   ·have hp4 := hb4
    (try simp only [bn] at hp4)
    exact absurd hb4 (by rw [List.getElem?_eq_getElem hjl]; simp)
   have hp4 := hb4
   (try simp only [bn] at hp4)
   refine ol_q (wn_some rfl rfl rfl hb4 rfl) (op_field fld_51_1 rfl) rfl ?_
   refine ol_q (wn_some rfl rfl rfl hb4 rfl) (op_ld 0 sc_3 rfl rfl (show (nodeC _).toArray[32]? = some (.int .i64 (slA t.nodes j)) from nodeC_a32 _)) rfl ?_
   refine ol_q (wn_some rfl rfl rfl hb4 rfl) (op_field fld_84_1 rfl) rfl ?_
   refine ol_q (wn_some rfl rfl rfl hb4 rfl) (op_ld 1 sc_3 rfl rfl (voteC_a1 _)) rfl ?_
   refine ol_q (wn_some rfl rfl rfl hb4 rfl) (op_gt rfl rfl) rfl ?_
   refine oq (op_pick_f (v := .bool _) rfl hb4 rfl) ?_
   refine Z1 ?_
   refine cd_cond rfl (fun hb5 => ?_) (fun hb5 => ?_)
   ·have hp5 := hb5
    (try simp only [bn] at hp5)
    have hunk : unkB t u = true := by rw [unk_some hix]; exact decide_eq_true (by omega)
    refine Z1y ?_
    rw [btake_unk hunk]; (try dsimp only)
    exact Z7w
   have hp5 := hb5
   (try simp only [bn] at hp5)
   have hbt := btake_yes (tb := tb) (show unkB t u = false by rw [unk_some hix]; exact decide_eq_false (by omega))
   refine Zn ?_
   refine cd_drawe (M := []) mx [6, 10, 11] ?_
   refine Z22 ?_
   refine Z5y ?_
   refine Zbc ?_
   refine Zbb ?_
   refine et_2 (i1 := 6) (i2 := 10) (by kernel_rfl) ?_ ?_
   ·
    refine Zb3 ?_
    refine Z7x ?_
    refine Z7y ?_
    refine Z7z ?_
    refine Z1f ?_
    refine Z80 ?_; intro bx6
    refine Z2l ?_
    refine Z81 ?_
    refine Z82 ?_
    refine Z16 ?_
    refine Zg ?_
    refine Z5m ?_
    refine Z6j ?_
    refine Z60 ?_
    refine Z83 ?_
    refine Z25 ?_
    refine ol_pull4 ?_
    refine oi (os_call cb_73 rfl (fun w s => stake_calls _ _ _ _ _ _ _ _ _ _ _ _ _ _ _ _ _ _ _ _ _  s (by assumption) (((((hr.cons _).cons _).cons _).cons _).cons _))) ?_; rintro _ _ ⟨rfl, rfl⟩; rw [hs7]
    refine Z8 ?_
    refine cd_pull1 ?_
    refine Z7 ?_
    refine Z55 ?_
    refine Z6 ?_
    refine Z84 ?_
    refine Z85 ?_
    refine Z61 ?_
    refine Z86 ?_
    refine Z3t ?_
    refine Z6o ?_
    refine Z5 ?_
    refine ol_split 61 rfl (fun hb6 => ?_) (fun hb6 => ?_)
    ·have hp6 := hb6
     (try simp only [bn] at hp6)
     have h0 : (tb.take u).1 = 0 := by simpa using hb6
     refine Z7d ?_
     refine Z7d ?_
     refine oq (op_pick_t (v := .bool _) rfl hb6 rfl) ?_
     refine Z2b ?_
     refine Z4f ?_
     rw [show IntKind.i64.wrap (0 - had) = -had from by rw [wrap_i64 (by omega) (by omega)]; omega]
     refine Z4g ?_
     refine cd_cond rfl (fun hb7 => ?_) (fun hb7 => ?_)
     ·have hp7 := hb7
      (try simp only [bn] at hp7)
      refine cd_pull1 ?_
      refine cd_pull2 ?_
      refine Z87 ?_
      refine Zd ?_
      refine Z3x ?_
      refine Zd ?_
      refine Z1x ?_
      refine Z57 ?_
      refine Z3x ?_
      refine rg_i (wn_none rfl) (os_back (os_pull3 (os_pull3 (os_call cb_73 rfl (fun w s => stake_calls _ _ _ _ _ _ _ _ _ _ _ _ _ _ _ _ _ _ _ _ _  s hn2 (((((hr.cons _).cons _).cons _).cons _).cons _))))) (fun _ s => (((((((s.pull 6).pull 6).pull 6).pull 4).pull 4).pull 6).pull 6))) rfl rfl ?_; rintro _ _ ⟨rfl, rfl⟩; rw [stakeV_new htw h0]; refine ⟨[_, _, _], rfl, ?_⟩
      refine Z88 ?_
      refine rg_nil3 ?_
      refine px_then ?_
      refine Z3b ?_
      rw [(htp.1 h0).1, hbt]
      exact Z47
     have hp7 := hb7
     (try simp only [bn] at hp7)
     exact absurd h0 (show (tb.take u).1 ≠ 0 by simpa using hb7)
    have hp6 := hb6
    (try simp only [bn] at hp6)
    have h0 : (tb.take u).1 ≠ 0 := by simpa using hb6
    refine ol_q (wn_some rfl rfl rfl hb6 rfl) (op_move (v := .int _ _) rfl) rfl ?_
    refine ol_q (wn_some rfl rfl rfl hb6 rfl) (op_eq rfl rfl) rfl ?_
    refine oq (op_pick_f (v := .bool _) rfl hb6 rfl) ?_
    refine Z1 ?_
    refine cd_cond rfl (fun hb8 => ?_) (fun hb8 => ?_)
    ·have hp8 := hb8
     (try simp only [bn] at hp8)
     have h2 : (tb.take u).1 = 2 := by simpa using hb8
     refine Z4f ?_
     rw [show IntKind.i64.wrap (0 - had) = -had from by rw [wrap_i64 (by omega) (by omega)]; omega]
     refine Z4g ?_
     refine cd_cond rfl (fun hb9 => ?_) (fun hb9 => ?_)
     ·have hp9 := hb9
      (try simp only [bn] at hp9)
      exact absurd (show (tb.take u).1 = 0 by simpa using hb9) h0
     have hp9 := hb9
     (try simp only [bn] at hp9)
     refine Z3y ?_
     rw [htp.2.1 h2, hbt]
     exact Z47
    have hp8 := hb8
    (try simp only [bn] at hp8)
    have h2 : (tb.take u).1 ≠ 2 := by simpa using hb8
    refine Za ?_
    refine Z5b ?_
    refine cd_cond rfl (fun hb10 => ?_) (fun hb10 => ?_)
    ·have hp10 := hb10
     (try simp only [bn] at hp10)
     exact absurd (show (tb.take u).1 = 0 by simpa using hb10) h0
    have hp10 := hb10
    (try simp only [bn] at hp10)
    refine Z3y ?_
    rw [hbt, htp.2.2 h0 h2]
    exact Z89
   refine Z80 ?_; intro bx7
   refine Z14 ?_
   refine Zb4 ?_
   refine Z7x ?_
   refine Z7y ?_
   refine Z7z ?_
   refine Z2l ?_
   refine Z81 ?_
   refine Z82 ?_
   refine Z16 ?_
   refine Zg ?_
   refine Z5m ?_
   refine Z6j ?_
   refine Z60 ?_
   refine Z83 ?_
   refine Z25 ?_
   refine ol_pull4 ?_
   refine oi (os_call cb_73 rfl (fun w s => stake_calls _ _ _ _ _ _ _ _ _ _ _ _ _ _ _ _ _ _ _ _ _  s (by assumption) (((((hr.cons _).cons _).cons _).cons _).cons _))) ?_; rintro _ _ ⟨rfl, rfl⟩; rw [hs7]
   refine Z8 ?_
   refine cd_pull1 ?_
   refine Z7 ?_
   refine Z55 ?_
   refine Z6 ?_
   refine Z84 ?_
   refine Z85 ?_
   refine Z61 ?_
   refine Z86 ?_
   refine Z3t ?_
   refine Z6o ?_
   refine Z5 ?_
   refine ol_split 61 rfl (fun hb11 => ?_) (fun hb11 => ?_)
   ·have hp11 := hb11
    (try simp only [bn] at hp11)
    have h0 : (tb.take u).1 = 0 := by simpa using hb11
    refine ol_skip (wn_some rfl rfl rfl hb11 rfl) rfl ?_
    refine ol_skip (wn_some rfl rfl rfl hb11 rfl) rfl ?_
    refine oq (op_pick_t (v := .bool _) rfl hb11 rfl) ?_
    refine Z2b ?_
    refine Z4f ?_
    rw [show IntKind.i64.wrap (0 - had) = -had from by rw [wrap_i64 (by omega) (by omega)]; omega]
    refine Z4g ?_
    refine cd_cond rfl (fun hb12 => ?_) (fun hb12 => ?_)
    ·have hp12 := hb12
     (try simp only [bn] at hp12)
     refine cd_pull1 ?_
     refine cd_pull2 ?_
     refine Z87 ?_
     refine Zd ?_
     refine Z3x ?_
     refine Zd ?_
     refine Z1x ?_
     refine Z57 ?_
     refine Z3x ?_
     refine rg_i (wn_none rfl) (os_back (os_pull3 (os_pull3 (os_call cb_73 rfl (fun w s => stake_calls _ _ _ _ _ _ _ _ _ _ _ _ _ _ _ _ _ _ _ _ _  s hn2 (((((hr.cons _).cons _).cons _).cons _).cons _))))) (fun _ s => (((((((s.pull 6).pull 6).pull 6).pull 4).pull 4).pull 6).pull 6))) rfl rfl ?_; rintro _ _ ⟨rfl, rfl⟩; rw [stakeV_new htw h0]; refine ⟨[_, _, _], rfl, ?_⟩
     refine Z88 ?_
     refine rg_nil3 ?_
     refine px_then ?_
     refine Z3b ?_
     rw [(htp.1 h0).1, hbt]
     exact Z47
    have hp12 := hb12
    (try simp only [bn] at hp12)
    exact absurd h0 (show (tb.take u).1 ≠ 0 by simpa using hb12)
   have hp11 := hb11
   (try simp only [bn] at hp11)
   have h0 : (tb.take u).1 ≠ 0 := by simpa using hb11
   refine ol_q (wn_some rfl rfl rfl hb11 rfl) (op_move (v := .int _ _) rfl) rfl ?_
   refine ol_q (wn_some rfl rfl rfl hb11 rfl) (op_eq rfl rfl) rfl ?_
   refine oq (op_pick_f (v := .bool _) rfl hb11 rfl) ?_
   refine Z1 ?_
   refine cd_cond rfl (fun hb13 => ?_) (fun hb13 => ?_)
   ·have hp13 := hb13
    (try simp only [bn] at hp13)
    have h2 : (tb.take u).1 = 2 := by simpa using hb13
    refine Z4f ?_
    rw [show IntKind.i64.wrap (0 - had) = -had from by rw [wrap_i64 (by omega) (by omega)]; omega]
    refine Z4g ?_
    refine cd_cond rfl (fun hb14 => ?_) (fun hb14 => ?_)
    ·have hp14 := hb14
     (try simp only [bn] at hp14)
     exact absurd (show (tb.take u).1 = 0 by simpa using hb14) h0
    have hp14 := hb14
    (try simp only [bn] at hp14)
    refine Z3y ?_
    rw [htp.2.1 h2, hbt]
    exact Z47
   have hp13 := hb13
   (try simp only [bn] at hp13)
   have h2 : (tb.take u).1 ≠ 2 := by simpa using hb13
   refine Za ?_
   refine Z5b ?_
   refine cd_cond rfl (fun hb15 => ?_) (fun hb15 => ?_)
   ·have hp15 := hb15
    (try simp only [bn] at hp15)
    exact absurd (show (tb.take u).1 = 0 by simpa using hb15) h0
   have hp15 := hb15
   (try simp only [bn] at hp15)
   refine Z3y ?_
   rw [hbt, htp.2.2 h0 h2]
   exact Z89
  refine Z7t ?_; intro bx8
  refine Z2l ?_
  refine ei_i rfl rfl (wn_none rfl) (os_back (os_pull3 (os_call cb_24 rfl (fun w s => Node_calls _ _ _  s ))) (fun _ s => ((((((s.pull 5).pull 5).pull 2).pull 5).pull 5).pull 5))) rfl ?_; rintro _ _ ⟨rfl, rfl⟩; rw [hna]; refine ⟨[_], rfl, ?_⟩
  refine Z7q ?_
  refine Z7r ?_
  refine Z7s ?_
  refine Z6e ?_
  refine Z7u ?_
  refine Z7v ?_
  refine Z16 ?_
  refine Z3v ?_
  refine Z5 ?_
  refine ol_split 30 rfl (fun hb16 => ?_) (fun hb16 => ?_)
  ·have hp16 := hb16
   (try simp only [bn] at hp16)
   exact absurd hb16 (by rw [List.getElem?_eq_getElem hjl]; simp)
  have hp16 := hb16
  (try simp only [bn] at hp16)
  refine ol_q (wn_some rfl rfl rfl hb16 rfl) (op_field fld_51_1 rfl) rfl ?_
  refine ol_q (wn_some rfl rfl rfl hb16 rfl) (op_ld 0 sc_3 rfl rfl (show (nodeC _).toArray[32]? = some (.int .i64 (slA t.nodes j)) from nodeC_a32 _)) rfl ?_
  refine ol_q (wn_some rfl rfl rfl hb16 rfl) (op_field fld_84_1 rfl) rfl ?_
  refine ol_q (wn_some rfl rfl rfl hb16 rfl) (op_ld 1 sc_3 rfl rfl (voteC_a1 _)) rfl ?_
  refine ol_q (wn_some rfl rfl rfl hb16 rfl) (op_gt rfl rfl) rfl ?_
  refine oq (op_pick_f (v := .bool _) rfl hb16 rfl) ?_
  refine Z1 ?_
  refine cd_cond rfl (fun hb17 => ?_) (fun hb17 => ?_)
  ·have hp17 := hb17
   (try simp only [bn] at hp17)
   have hunk : unkB t u = true := by rw [unk_some hix]; exact decide_eq_true (by omega)
   refine Z1y ?_
   rw [btake_unk hunk]; (try dsimp only)
   exact Z7w
  have hp17 := hb17
  (try simp only [bn] at hp17)
  have hbt := btake_yes (tb := tb) (show unkB t u = false by rw [unk_some hix]; exact decide_eq_false (by omega))
  refine Zn ?_
  refine cd_drawe (M := []) mx [6, 10, 11] ?_
  refine Z22 ?_
  refine Z5y ?_
  refine Zbc ?_
  refine Zbb ?_
  refine et_2 (i1 := 6) (i2 := 10) (by kernel_rfl) ?_ ?_
  ·
   refine Zb3 ?_
   refine Z7x ?_
   refine Z7y ?_
   refine Z7z ?_
   refine Z1f ?_
   refine Z80 ?_; intro bx9
   refine Z2l ?_
   refine Z81 ?_
   refine Z82 ?_
   refine Z16 ?_
   refine Zg ?_
   refine Z5m ?_
   refine Z6j ?_
   refine Z60 ?_
   refine Z83 ?_
   refine Z25 ?_
   refine ol_pull4 ?_
   refine oi (os_call cb_73 rfl (fun w s => stake_calls _ _ _ _ _ _ _ _ _ _ _ _ _ _ _ _ _ _ _ _ _  s (by assumption) (((((hr.cons _).cons _).cons _).cons _).cons _))) ?_; rintro _ _ ⟨rfl, rfl⟩; rw [hs7]
   refine Z8 ?_
   refine cd_pull1 ?_
   refine Z7 ?_
   refine Z55 ?_
   refine Z6 ?_
   refine Z84 ?_
   refine Z85 ?_
   refine Z61 ?_
   refine Z86 ?_
   refine Z3t ?_
   refine Z6o ?_
   refine Z5 ?_
   refine ol_split 61 rfl (fun hb18 => ?_) (fun hb18 => ?_)
   ·have hp18 := hb18
    (try simp only [bn] at hp18)
    have h0 : (tb.take u).1 = 0 := by simpa using hb18
    refine ol_skip (wn_some rfl rfl rfl hb18 rfl) rfl ?_
    refine ol_skip (wn_some rfl rfl rfl hb18 rfl) rfl ?_
    refine oq (op_pick_t (v := .bool _) rfl hb18 rfl) ?_
    refine Z2b ?_
    refine Z4f ?_
    rw [show IntKind.i64.wrap (0 - had) = -had from by rw [wrap_i64 (by omega) (by omega)]; omega]
    refine Z4g ?_
    refine cd_cond rfl (fun hb19 => ?_) (fun hb19 => ?_)
    ·have hp19 := hb19
     (try simp only [bn] at hp19)
     refine cd_pull1 ?_
     refine cd_pull2 ?_
     refine Z87 ?_
     refine Zd ?_
     refine Z3x ?_
     refine Zd ?_
     refine Z1x ?_
     refine Z57 ?_
     refine Z3x ?_
     refine rg_i (wn_none rfl) (os_back (os_pull3 (os_pull3 (os_call cb_73 rfl (fun w s => stake_calls _ _ _ _ _ _ _ _ _ _ _ _ _ _ _ _ _ _ _ _ _  s hn2 (((((hr.cons _).cons _).cons _).cons _).cons _))))) (fun _ s => (((((((s.pull 6).pull 6).pull 6).pull 4).pull 4).pull 6).pull 6))) rfl rfl ?_; rintro _ _ ⟨rfl, rfl⟩; rw [stakeV_new htw h0]; refine ⟨[_, _, _], rfl, ?_⟩
     refine Z88 ?_
     refine rg_nil3 ?_
     refine px_then ?_
     refine Z3b ?_
     rw [(htp.1 h0).1, hbt]
     exact Z47
    have hp19 := hb19
    (try simp only [bn] at hp19)
    exact absurd h0 (show (tb.take u).1 ≠ 0 by simpa using hb19)
   have hp18 := hb18
   (try simp only [bn] at hp18)
   have h0 : (tb.take u).1 ≠ 0 := by simpa using hb18
   refine ol_q (wn_some rfl rfl rfl hb18 rfl) (op_move (v := .int _ _) rfl) rfl ?_
   refine ol_q (wn_some rfl rfl rfl hb18 rfl) (op_eq rfl rfl) rfl ?_
   refine oq (op_pick_f (v := .bool _) rfl hb18 rfl) ?_
   refine Z1 ?_
   refine cd_cond rfl (fun hb20 => ?_) (fun hb20 => ?_)
   ·have hp20 := hb20
    (try simp only [bn] at hp20)
    have h2 : (tb.take u).1 = 2 := by simpa using hb20
    refine Z4f ?_
    rw [show IntKind.i64.wrap (0 - had) = -had from by rw [wrap_i64 (by omega) (by omega)]; omega]
    refine Z4g ?_
    refine cd_cond rfl (fun hb21 => ?_) (fun hb21 => ?_)
    ·have hp21 := hb21
     (try simp only [bn] at hp21)
     exact absurd (show (tb.take u).1 = 0 by simpa using hb21) h0
    have hp21 := hb21
    (try simp only [bn] at hp21)
    refine Z3y ?_
    rw [htp.2.1 h2, hbt]
    exact Z47
   have hp20 := hb20
   (try simp only [bn] at hp20)
   have h2 : (tb.take u).1 ≠ 2 := by simpa using hb20
   refine Za ?_
   refine Z5b ?_
   refine cd_cond rfl (fun hb22 => ?_) (fun hb22 => ?_)
   ·have hp22 := hb22
    (try simp only [bn] at hp22)
    exact absurd (show (tb.take u).1 = 0 by simpa using hb22) h0
   have hp22 := hb22
   (try simp only [bn] at hp22)
   refine Z3y ?_
   rw [hbt, htp.2.2 h0 h2]
   exact Z89
  refine Z80 ?_; intro bx10
  refine Z14 ?_
  refine Zb4 ?_
  refine Z7x ?_
  refine Z7y ?_
  refine Z7z ?_
  refine Z2l ?_
  refine Z81 ?_
  refine Z82 ?_
  refine Z16 ?_
  refine Zg ?_
  refine Z5m ?_
  refine Z6j ?_
  refine Z60 ?_
  refine Z83 ?_
  refine Z25 ?_
  refine ol_pull4 ?_
  refine oi (os_call cb_73 rfl (fun w s => stake_calls _ _ _ _ _ _ _ _ _ _ _ _ _ _ _ _ _ _ _ _ _  s (by assumption) (((((hr.cons _).cons _).cons _).cons _).cons _))) ?_; rintro _ _ ⟨rfl, rfl⟩; rw [hs7]
  refine Z8 ?_
  refine cd_pull1 ?_
  refine Z7 ?_
  refine Z55 ?_
  refine Z6 ?_
  refine Z84 ?_
  refine Z85 ?_
  refine Z61 ?_
  refine Z86 ?_
  refine Z3t ?_
  refine Z6o ?_
  refine Z5 ?_
  refine ol_split 61 rfl (fun hb23 => ?_) (fun hb23 => ?_)
  ·have hp23 := hb23
   (try simp only [bn] at hp23)
   have h0 : (tb.take u).1 = 0 := by simpa using hb23
   refine ol_skip (wn_some rfl rfl rfl hb23 rfl) rfl ?_
   refine ol_skip (wn_some rfl rfl rfl hb23 rfl) rfl ?_
   refine oq (op_pick_t (v := .bool _) rfl hb23 rfl) ?_
   refine Z2b ?_
   refine Z4f ?_
   rw [show IntKind.i64.wrap (0 - had) = -had from by rw [wrap_i64 (by omega) (by omega)]; omega]
   refine Z4g ?_
   refine cd_cond rfl (fun hb24 => ?_) (fun hb24 => ?_)
   ·have hp24 := hb24
    (try simp only [bn] at hp24)
    refine cd_pull1 ?_
    refine cd_pull2 ?_
    refine Z87 ?_
    refine Zd ?_
    refine Z3x ?_
    refine Zd ?_
    refine Z1x ?_
    refine Z57 ?_
    refine Z3x ?_
    refine rg_i (wn_none rfl) (os_back (os_pull3 (os_pull3 (os_call cb_73 rfl (fun w s => stake_calls _ _ _ _ _ _ _ _ _ _ _ _ _ _ _ _ _ _ _ _ _  s hn2 (((((hr.cons _).cons _).cons _).cons _).cons _))))) (fun _ s => (((((((s.pull 6).pull 6).pull 6).pull 4).pull 4).pull 6).pull 6))) rfl rfl ?_; rintro _ _ ⟨rfl, rfl⟩; rw [stakeV_new htw h0]; refine ⟨[_, _, _], rfl, ?_⟩
    refine Z88 ?_
    refine rg_nil3 ?_
    refine px_then ?_
    refine Z3b ?_
    rw [(htp.1 h0).1, hbt]
    exact Z47
   have hp24 := hb24
   (try simp only [bn] at hp24)
   exact absurd h0 (show (tb.take u).1 ≠ 0 by simpa using hb24)
  have hp23 := hb23
  (try simp only [bn] at hp23)
  have h0 : (tb.take u).1 ≠ 0 := by simpa using hb23
  refine ol_q (wn_some rfl rfl rfl hb23 rfl) (op_move (v := .int _ _) rfl) rfl ?_
  refine ol_q (wn_some rfl rfl rfl hb23 rfl) (op_eq rfl rfl) rfl ?_
  refine oq (op_pick_f (v := .bool _) rfl hb23 rfl) ?_
  refine Z1 ?_
  refine cd_cond rfl (fun hb25 => ?_) (fun hb25 => ?_)
  ·have hp25 := hb25
   (try simp only [bn] at hp25)
   have h2 : (tb.take u).1 = 2 := by simpa using hb25
   refine Z4f ?_
   rw [show IntKind.i64.wrap (0 - had) = -had from by rw [wrap_i64 (by omega) (by omega)]; omega]
   refine Z4g ?_
   refine cd_cond rfl (fun hb26 => ?_) (fun hb26 => ?_)
   ·have hp26 := hb26
    (try simp only [bn] at hp26)
    exact absurd (show (tb.take u).1 = 0 by simpa using hb26) h0
   have hp26 := hb26
   (try simp only [bn] at hp26)
   refine Z3y ?_
   rw [htp.2.1 h2, hbt]
   exact Z47
  have hp25 := hb25
  (try simp only [bn] at hp25)
  have h2 : (tb.take u).1 ≠ 2 := by simpa using hb25
  refine Za ?_
  refine Z5b ?_
  refine cd_cond rfl (fun hb27 => ?_) (fun hb27 => ?_)
  ·have hp27 := hb27
   (try simp only [bn] at hp27)
   exact absurd (show (tb.take u).1 = 0 by simpa using hb27) h0
  have hp27 := hb27
  (try simp only [bn] at hp27)
  refine Z3y ?_
  rw [hbt, htp.2.2 h0 h2]
  exact Z89
 refine Z7t ?_; intro bx11
 refine Z1f ?_
 refine Zc6 ?_
 refine Z2l ?_
 refine ei_i rfl rfl (wn_none rfl) (os_back (os_pull3 (os_call cb_24 rfl (fun w s => Node_calls _ _ _  s ))) (fun _ s => ((((((s.pull 5).pull 5).pull 2).pull 5).pull 5).pull 5))) rfl ?_; rintro _ _ ⟨rfl, rfl⟩; rw [hna]; refine ⟨[_], rfl, ?_⟩
 refine Z7q ?_
 refine Z7r ?_
 refine Z7s ?_
 refine Z6e ?_
 refine Z7u ?_
 refine Z7v ?_
 refine Z16 ?_
 refine Z3v ?_
 refine Z5 ?_
 refine ol_split 30 rfl (fun hb28 => ?_) (fun hb28 => ?_)
 ·have hp28 := hb28
  (try simp only [bn] at hp28)
  exact absurd hb28 (by rw [List.getElem?_eq_getElem hjl]; simp)
 have hp28 := hb28
 (try simp only [bn] at hp28)
 refine ol_q (wn_some rfl rfl rfl hb28 rfl) (op_field fld_51_1 rfl) rfl ?_
 refine ol_q (wn_some rfl rfl rfl hb28 rfl) (op_ld 0 sc_3 rfl rfl (show (nodeC _).toArray[32]? = some (.int .i64 (slA t.nodes j)) from nodeC_a32 _)) rfl ?_
 refine ol_q (wn_some rfl rfl rfl hb28 rfl) (op_field fld_84_1 rfl) rfl ?_
 refine ol_q (wn_some rfl rfl rfl hb28 rfl) (op_ld 1 sc_3 rfl rfl (voteC_a1 _)) rfl ?_
 refine ol_q (wn_some rfl rfl rfl hb28 rfl) (op_gt rfl rfl) rfl ?_
 refine oq (op_pick_f (v := .bool _) rfl hb28 rfl) ?_
 refine Z1 ?_
 refine cd_cond rfl (fun hb29 => ?_) (fun hb29 => ?_)
 ·have hp29 := hb29
  (try simp only [bn] at hp29)
  have hunk : unkB t u = true := by rw [unk_some hix]; exact decide_eq_true (by omega)
  refine Z1y ?_
  rw [btake_unk hunk]; (try dsimp only)
  exact Z7w
 have hp29 := hb29
 (try simp only [bn] at hp29)
 have hbt := btake_yes (tb := tb) (show unkB t u = false by rw [unk_some hix]; exact decide_eq_false (by omega))
 refine Zn ?_
 refine cd_drawe (M := []) mx [6, 10, 11] ?_
 refine Z22 ?_
 refine Z5y ?_
 refine Zbc ?_
 refine Zbb ?_
 refine et_2 (i1 := 6) (i2 := 10) (by kernel_rfl) ?_ ?_
 ·
  refine Zb3 ?_
  refine Z7x ?_
  refine Z7y ?_
  refine Z7z ?_
  refine Z1f ?_
  refine Z80 ?_; intro bx12
  refine Z2l ?_
  refine Z81 ?_
  refine Z82 ?_
  refine Z16 ?_
  refine Zg ?_
  refine Z5m ?_
  refine Z6j ?_
  refine Z60 ?_
  refine Z83 ?_
  refine Z25 ?_
  refine ol_pull4 ?_
  refine oi (os_call cb_73 rfl (fun w s => stake_calls _ _ _ _ _ _ _ _ _ _ _ _ _ _ _ _ _ _ _ _ _  s (by assumption) (((((hr.cons _).cons _).cons _).cons _).cons _))) ?_; rintro _ _ ⟨rfl, rfl⟩; rw [hs7]
  refine Z8 ?_
  refine cd_pull1 ?_
  refine Z7 ?_
  refine Z55 ?_
  refine Z6 ?_
  refine Z84 ?_
  refine Z85 ?_
  refine Z61 ?_
  refine Z86 ?_
  refine Z3t ?_
  refine Z6o ?_
  refine Z5 ?_
  refine ol_split 61 rfl (fun hb30 => ?_) (fun hb30 => ?_)
  ·have hp30 := hb30
   (try simp only [bn] at hp30)
   have h0 : (tb.take u).1 = 0 := by simpa using hb30
   refine ol_skip (wn_some rfl rfl rfl hb30 rfl) rfl ?_
   refine ol_skip (wn_some rfl rfl rfl hb30 rfl) rfl ?_
   refine oq (op_pick_t (v := .bool _) rfl hb30 rfl) ?_
   refine Z2b ?_
   refine Z4f ?_
   rw [show IntKind.i64.wrap (0 - had) = -had from by rw [wrap_i64 (by omega) (by omega)]; omega]
   refine Z4g ?_
   refine cd_cond rfl (fun hb31 => ?_) (fun hb31 => ?_)
   ·have hp31 := hb31
    (try simp only [bn] at hp31)
    refine cd_pull1 ?_
    refine cd_pull2 ?_
    refine Z87 ?_
    refine Zd ?_
    refine Z3x ?_
    refine Zd ?_
    refine Z1x ?_
    refine Z57 ?_
    refine Z3x ?_
    refine rg_i (wn_none rfl) (os_back (os_pull3 (os_pull3 (os_call cb_73 rfl (fun w s => stake_calls _ _ _ _ _ _ _ _ _ _ _ _ _ _ _ _ _ _ _ _ _  s hn2 (((((hr.cons _).cons _).cons _).cons _).cons _))))) (fun _ s => (((((((s.pull 6).pull 6).pull 6).pull 4).pull 4).pull 6).pull 6))) rfl rfl ?_; rintro _ _ ⟨rfl, rfl⟩; rw [stakeV_new htw h0]; refine ⟨[_, _, _], rfl, ?_⟩
    refine Z88 ?_
    refine rg_nil3 ?_
    refine px_then ?_
    refine Z3b ?_
    rw [(htp.1 h0).1, hbt]
    exact Z47
   have hp31 := hb31
   (try simp only [bn] at hp31)
   exact absurd h0 (show (tb.take u).1 ≠ 0 by simpa using hb31)
  have hp30 := hb30
  (try simp only [bn] at hp30)
  have h0 : (tb.take u).1 ≠ 0 := by simpa using hb30
  refine ol_q (wn_some rfl rfl rfl hb30 rfl) (op_move (v := .int _ _) rfl) rfl ?_
  refine ol_q (wn_some rfl rfl rfl hb30 rfl) (op_eq rfl rfl) rfl ?_
  refine oq (op_pick_f (v := .bool _) rfl hb30 rfl) ?_
  refine Z1 ?_
  refine cd_cond rfl (fun hb32 => ?_) (fun hb32 => ?_)
  ·have hp32 := hb32
   (try simp only [bn] at hp32)
   have h2 : (tb.take u).1 = 2 := by simpa using hb32
   refine Z4f ?_
   rw [show IntKind.i64.wrap (0 - had) = -had from by rw [wrap_i64 (by omega) (by omega)]; omega]
   refine Z4g ?_
   refine cd_cond rfl (fun hb33 => ?_) (fun hb33 => ?_)
   ·have hp33 := hb33
    (try simp only [bn] at hp33)
    exact absurd (show (tb.take u).1 = 0 by simpa using hb33) h0
   have hp33 := hb33
   (try simp only [bn] at hp33)
   refine Z3y ?_
   rw [htp.2.1 h2, hbt]
   exact Z47
  have hp32 := hb32
  (try simp only [bn] at hp32)
  have h2 : (tb.take u).1 ≠ 2 := by simpa using hb32
  refine Za ?_
  refine Z5b ?_
  refine cd_cond rfl (fun hb34 => ?_) (fun hb34 => ?_)
  ·have hp34 := hb34
   (try simp only [bn] at hp34)
   exact absurd (show (tb.take u).1 = 0 by simpa using hb34) h0
  have hp34 := hb34
  (try simp only [bn] at hp34)
  refine Z3y ?_
  rw [hbt, htp.2.2 h0 h2]
  exact Z89
 refine Z80 ?_; intro bx13
 refine Z14 ?_
 refine Zb4 ?_
 refine Z7x ?_
 refine Z7y ?_
 refine Z7z ?_
 refine Z2l ?_
 refine Z81 ?_
 refine Z82 ?_
 refine Z16 ?_
 refine Zg ?_
 refine Z5m ?_
 refine Z6j ?_
 refine Z60 ?_
 refine Z83 ?_
 refine Z25 ?_
 refine ol_pull4 ?_
 refine oi (os_call cb_73 rfl (fun w s => stake_calls _ _ _ _ _ _ _ _ _ _ _ _ _ _ _ _ _ _ _ _ _  s (by assumption) (((((hr.cons _).cons _).cons _).cons _).cons _))) ?_; rintro _ _ ⟨rfl, rfl⟩; rw [hs7]
 refine Z8 ?_
 refine cd_pull1 ?_
 refine Z7 ?_
 refine Z55 ?_
 refine Z6 ?_
 refine Z84 ?_
 refine Z85 ?_
 refine Z61 ?_
 refine Z86 ?_
 refine Z3t ?_
 refine Z6o ?_
 refine Z5 ?_
 refine ol_split 61 rfl (fun hb35 => ?_) (fun hb35 => ?_)
 ·have hp35 := hb35
  (try simp only [bn] at hp35)
  have h0 : (tb.take u).1 = 0 := by simpa using hb35
  refine ol_skip (wn_some rfl rfl rfl hb35 rfl) rfl ?_
  refine ol_skip (wn_some rfl rfl rfl hb35 rfl) rfl ?_
  refine oq (op_pick_t (v := .bool _) rfl hb35 rfl) ?_
  refine Z2b ?_
  refine Z4f ?_
  rw [show IntKind.i64.wrap (0 - had) = -had from by rw [wrap_i64 (by omega) (by omega)]; omega]
  refine Z4g ?_
  refine cd_cond rfl (fun hb36 => ?_) (fun hb36 => ?_)
  ·have hp36 := hb36
   (try simp only [bn] at hp36)
   refine cd_pull1 ?_
   refine cd_pull2 ?_
   refine Z87 ?_
   refine Zd ?_
   refine Z3x ?_
   refine Zd ?_
   refine Z1x ?_
   refine Z57 ?_
   refine Z3x ?_
   refine rg_i (wn_none rfl) (os_back (os_pull3 (os_pull3 (os_call cb_73 rfl (fun w s => stake_calls _ _ _ _ _ _ _ _ _ _ _ _ _ _ _ _ _ _ _ _ _  s hn2 (((((hr.cons _).cons _).cons _).cons _).cons _))))) (fun _ s => (((((((s.pull 6).pull 6).pull 6).pull 4).pull 4).pull 6).pull 6))) rfl rfl ?_; rintro _ _ ⟨rfl, rfl⟩; rw [stakeV_new htw h0]; refine ⟨[_, _, _], rfl, ?_⟩
   refine Z88 ?_
   refine rg_nil3 ?_
   refine px_then ?_
   refine Z3b ?_
   rw [(htp.1 h0).1, hbt]
   exact Z47
  have hp36 := hb36
  (try simp only [bn] at hp36)
  exact absurd h0 (show (tb.take u).1 ≠ 0 by simpa using hb36)
 have hp35 := hb35
 (try simp only [bn] at hp35)
 have h0 : (tb.take u).1 ≠ 0 := by simpa using hb35
 refine ol_q (wn_some rfl rfl rfl hb35 rfl) (op_move (v := .int _ _) rfl) rfl ?_
 refine ol_q (wn_some rfl rfl rfl hb35 rfl) (op_eq rfl rfl) rfl ?_
 refine oq (op_pick_f (v := .bool _) rfl hb35 rfl) ?_
 refine Z1 ?_
 refine cd_cond rfl (fun hb37 => ?_) (fun hb37 => ?_)
 ·have hp37 := hb37
  (try simp only [bn] at hp37)
  have h2 : (tb.take u).1 = 2 := by simpa using hb37
  refine Z4f ?_
  rw [show IntKind.i64.wrap (0 - had) = -had from by rw [wrap_i64 (by omega) (by omega)]; omega]
  refine Z4g ?_
  refine cd_cond rfl (fun hb38 => ?_) (fun hb38 => ?_)
  ·have hp38 := hb38
   (try simp only [bn] at hp38)
   exact absurd (show (tb.take u).1 = 0 by simpa using hb38) h0
  have hp38 := hb38
  (try simp only [bn] at hp38)
  refine Z3y ?_
  rw [htp.2.1 h2, hbt]
  exact Z47
 have hp37 := hb37
 (try simp only [bn] at hp37)
 have h2 : (tb.take u).1 ≠ 2 := by simpa using hb37
 refine Za ?_
 refine Z5b ?_
 refine cd_cond rfl (fun hb39 => ?_) (fun hb39 => ?_)
 ·have hp39 := hb39
  (try simp only [bn] at hp39)
  exact absurd (show (tb.take u).1 = 0 by simpa using hb39) h0
 have hp39 := hb39
 (try simp only [bn] at hp39)
 refine Z3y ?_
 rw [hbt, htp.2.2 h0 h2]
 exact Z89

set_option maxRecDepth 100000 in
set_option maxHeartbeats 1000000 in
theorem BKeepN_calls {w0 w : World} {l : List HProp} (pb pt pw pv : Nat) (ao : Option Addr) (c : Nat) (xs : List Val) (n1 n2 n3 n4 n5 n6 n7 n8 n9 n10 n11 : Int) (t : TreeS) (E : Nat → Option Root) (r : Root) (hs : Sat w0 w ((Blk pb (.cells #[.slice ao xs.length c, .int .i64 n1, .int .i64 n2, .int .i64 n3, .int .i64 n4, .int .i64 n5, .int .i64 n6, .int .i64 n7, .int .i64 n8, .int .i64 n9, .int .i64 n10, .int .i64 n11, .pointer (some ⟨pt, 0, none⟩), .pointer (some ⟨pw, 0, none⟩), .pointer (some ⟨pv, 0, none⟩)] 131 (0, 0))) :: (TreeObj pt t) :: (WObj pw pt t.nodes (ownE xs E t.nodes)) :: l)) (hi : idxOf t.nodes r = none) (hsk : StkOK xs) :
  Calls Try.prog 44 #[.pointer (some ⟨pb, 0, none⟩), .agg (rootC r).toArray] w (Ret w0 fun v l' => v = .int .i64 7 ∧ l' = Blk pb (.cells #[.slice ao xs.length c, .int .i64 n1, .int .i64 n2, .int .i64 n3, .int .i64 n4, .int .i64 n5, .int .i64 n6, .int .i64 n7, .int .i64 n8, .int .i64 n9, .int .i64 n10, .int .i64 n11, .pointer (some ⟨pt, 0, none⟩), .pointer (some ⟨pw, 0, none⟩), .pointer (some ⟨pv, 0, none⟩)] 131 (0, 0)) :: TreeObj pt t :: WObj pw pt t.nodes (ownE xs E t.nodes) :: l) := by
 refine calls_enter Try.func44 rfl rfl rfl hs ?_
 refine Z3z ?_; intro bx1
 refine Z67 ?_
 refine Z2c ?_
 refine cd_pull2 ?_
 refine cd_pull3 ?_
 refine Z7 ?_
 refine cd_draw (M := [_, _]) mx [9] (by kernel_rfl) ?_
 refine Z6 ?_
 refine Za5 ?_
 refine Z6z ?_
 refine Z6 ?_
 refine Za6 ?_
 refine Za7 ?_
 refine Z17 ?_
 refine rg_i (wn_none rfl) (os_pull1 (os_call cb_16 rfl (fun w s => PAllN_calls _ _ _ _ _  s (by assumption)))) rfl rfl ?_; rintro _ _ ⟨rfl, rfl⟩; refine ⟨[_, _], rfl, ?_⟩
 refine Z4z ?_
 refine Z68 ?_
 refine Z68 ?_
 refine Z8h ?_
 refine Z56 ?_
 refine Z56 ?_
 refine Z2w ?_
 refine rg_nil_then2 ?_
 refine Zf ?_
 refine Z5c ?_
 refine cd_cond rfl (fun hb1 => ?_) (fun hb1 => ?_)
 ·have hp1 := hb1
  (try simp only [bn] at hp1)
  refine Z3b ?_
  refine Z13 ?_
  exact px_ret1 rfl (v := .int _ _) rfl (fun _ s => ((((s.del 2).pull 1).pull 1).pull 2)) ⟨rfl, rfl⟩
 have hp1 := hb1
 (try simp only [bn] at hp1)
 exact absurd hb1 (by decide)

set_option maxRecDepth 100000 in
set_option maxHeartbeats 1000000 in
theorem BKeepS_calls {w0 w : World} {l : List HProp} (pb pt pw pv : Nat) (ao : Option Addr) (c : Nat) (xs : List Val) (n1 n2 n3 n4 n5 n6 n7 n8 n9 n10 n11 : Int) (t : TreeS) (E : Nat → Option Root) (r : Root) (a : Nat) (hs : Sat w0 w ((Blk pb (.cells #[.slice ao xs.length c, .int .i64 n1, .int .i64 n2, .int .i64 n3, .int .i64 n4, .int .i64 n5, .int .i64 n6, .int .i64 n7, .int .i64 n8, .int .i64 n9, .int .i64 n10, .int .i64 n11, .pointer (some ⟨pt, 0, none⟩), .pointer (some ⟨pw, 0, none⟩), .pointer (some ⟨pv, 0, none⟩)] 131 (0, 0))) :: (TreeObj pt t) :: (WObj pw pt t.nodes (ownE xs E t.nodes)) :: l)) (hi : idxOf t.nodes r = some a) (hsk : StkOK xs) :
  Calls Try.prog 44 #[.pointer (some ⟨pb, 0, none⟩), .agg (rootC r).toArray] w (Ret w0 fun v l' => ∃ qt qw, v = .int .i64 0 ∧ l' = Blk pb (.cells #[.slice ao xs.length c, .int .i64 n1, .int .i64 n2, .int .i64 n3, .int .i64 n4, .int .i64 n5, .int .i64 n6, .int .i64 n7, .int .i64 n8, .int .i64 n9, .int .i64 n10, .int .i64 n11, .pointer (some ⟨qt, 0, none⟩), .pointer (some ⟨qw, 0, none⟩), .pointer (some ⟨pv, 0, none⟩)] 131 (0, 0)) :: TreeObj qt (prT t a) :: WObj qw qt (prT t a).nodes (ownE xs E (prT t a).nodes) :: l) := by
 have hw := hs.drop.treeWF
 refine calls_enter Try.func44 rfl rfl rfl hs ?_
 refine Z3z ?_; intro bx1
 refine Z67 ?_
 refine Z2c ?_
 refine cd_pull2 ?_
 refine cd_pull3 ?_
 refine Z7 ?_
 refine cd_draw (M := [_, _]) mx [9] (by kernel_rfl) ?_
 refine Z6 ?_
 refine Za5 ?_
 refine Z6z ?_
 refine Z6 ?_
 refine Za6 ?_
 refine Za7 ?_
 refine Z17 ?_
 refine rg_i (wn_none rfl) (os_pull1 (os_call cb_16 rfl (fun w s => PAllS_calls _ _ _ _ _ _  s hi (Nat.le_of_eq (ownE_len _ _ _)) (ownE_ok hsk hw)))) rfl rfl ?_; rintro _ _ ⟨pq1, qw1, rfl, rfl⟩; rw [pr_ownE hw a]; refine ⟨[_, _, _, _], rfl, ?_⟩
 refine Z4z ?_
 refine Z68 ?_
 refine Z68 ?_
 refine Z8h ?_
 refine Z56 ?_
 refine Z56 ?_
 refine Z2w ?_
 refine rg_nil_then4 ?_
 refine Zf ?_
 refine Z5c ?_
 refine cd_cond rfl (fun hb1 => ?_) (fun hb1 => ?_)
 ·have hp1 := hb1
  (try simp only [bn] at hp1)
  exact absurd hb1 (by decide)
 have hp1 := hb1
 (try simp only [bn] at hp1)
 refine Za ?_
 refine Z3i ?_
 refine Z1p ?_
 refine Z1p ?_
 refine Zr ?_
 refine oq (op_field fld_131_1 rfl) ?_
 refine ol_pull5 ?_
 refine oN (os_store (v := .pointer _) sc_26 rfl rfl rfl rfl (Free.zero _) rfl) ?_; rintro _ _ ⟨rfl, rfl⟩
 refine Zr ?_
 refine oq (op_field fld_131_2 rfl) ?_
 refine oN (os_store (v := .pointer _) sc_27 rfl rfl rfl rfl (Free.zero _) rfl) ?_; rintro _ _ ⟨rfl, rfl⟩
 refine Z1 ?_
 refine Z1c ?_
 exact px_ret1 rfl (v := .int _ _) rfl (fun _ s => (((s.del 5).del 4).del 3)) ⟨_, _, rfl, rfl⟩

set_option maxRecDepth 100000 in
set_option maxHeartbeats 1000000 in
theorem BForget_calls {w0 w : World} {l : List HProp} (pb pt pw pv : Nat) (ao : Option Addr) (c : Nat) (xs : List Val) (n1 n2 n3 n4 n5 n6 n7 n8 n9 n10 n11 : Int) (tb : TabS) (slot : Int) (hs : Sat w0 w ((Blk pb (.cells #[.slice ao xs.length c, .int .i64 n1, .int .i64 n2, .int .i64 n3, .int .i64 n4, .int .i64 n5, .int .i64 n6, .int .i64 n7, .int .i64 n8, .int .i64 n9, .int .i64 n10, .int .i64 n11, .pointer (some ⟨pt, 0, none⟩), .pointer (some ⟨pw, 0, none⟩), .pointer (some ⟨pv, 0, none⟩)] 131 (0, 0))) :: (TabObj pv tb) :: l)) (hs0 : slot ≤ 9223372036854775807) :
  Calls Try.prog 70 #[.pointer (some ⟨pb, 0, none⟩), .int .i64 slot] w (Ret w0 fun v l' => v = .tuple #[] ∧ l' = Blk pb (.cells #[.slice ao xs.length c, .int .i64 n1, .int .i64 n2, .int .i64 n3, .int .i64 n4, .int .i64 n5, .int .i64 n6, .int .i64 n7, .int .i64 n8, .int .i64 n9, .int .i64 n10, .int .i64 n11, .pointer (some ⟨pt, 0, none⟩), .pointer (some ⟨pw, 0, none⟩), .pointer (some ⟨pv, 0, none⟩)] 131 (0, 0)) :: TabObj pv (tb.forget slot) :: l) := by
 refine calls_enter Try.func70 rfl rfl rfl hs ?_
 refine Zg ?_
 refine oq (op_nenil Try.underlying67 rfl rfl) ?_
 refine Z2b ?_
 refine Z6a ?_
 refine Zr ?_
 refine oq (op_field fld_131_3 rfl) ?_
 refine oq (op_ld 0 sc_79 rfl rfl rfl) ?_
 refine Z4 ?_
 refine Z9 ?_
 refine oi (os_call cb_92 rfl (fun w s => Forget_calls _ _ _  s (by omega))) ?_; rintro _ _ ⟨rfl, rfl⟩
 refine ol_nil ?_
 exact px_end0 rfl (fun _ s => (s.pull 1)) ⟨rfl, rfl⟩

set_option maxRecDepth 100000 in
set_option maxHeartbeats 1000000 in
theorem BHead_calls {w0 w : World} {l : List HProp} (pb pt pw pv : Nat) (ao : Option Addr) (c : Nat) (xs : List Val) (n1 n2 n3 n4 n5 n6 n7 n8 n9 n10 n11 : Int) (t : TreeS) (o : List Int) (hs : Sat w0 w ((Blk pb (.cells #[.slice ao xs.length c, .int .i64 n1, .int .i64 n2, .int .i64 n3, .int .i64 n4, .int .i64 n5, .int .i64 n6, .int .i64 n7, .int .i64 n8, .int .i64 n9, .int .i64 n10, .int .i64 n11, .pointer (some ⟨pt, 0, none⟩), .pointer (some ⟨pw, 0, none⟩), .pointer (some ⟨pv, 0, none⟩)] 131 (0, 0))) :: (TreeObj pt t) :: (WObj pw pt t.nodes o) :: l)) (h1 : o.length ≤ t.nodes.length) (h0 : 0 < o.length) :
  Calls Try.prog 38 #[.pointer (some ⟨pb, 0, none⟩)] w (Ret w0 fun v l' => v = .agg (rootC (headW t.nodes o)).toArray ∧ l' = Blk pb (.cells #[.slice ao xs.length c, .int .i64 n1, .int .i64 n2, .int .i64 n3, .int .i64 n4, .int .i64 n5, .int .i64 n6, .int .i64 n7, .int .i64 n8, .int .i64 n9, .int .i64 n10, .int .i64 n11, .pointer (some ⟨pt, 0, none⟩), .pointer (some ⟨pw, 0, none⟩), .pointer (some ⟨pv, 0, none⟩)] 131 (0, 0)) :: TreeObj pt t :: WObj pw pt t.nodes o :: l) := by
 refine calls_enter Try.func38 rfl rfl rfl hs ?_
 refine Z0 ?_
 refine Z1w ?_; intro bx1
 refine Z1 ?_
 refine Z1q ?_
 refine Z67 ?_
 refine Z2c ?_
 refine Z1v ?_
 refine oq (op_field fld_131_2 rfl) ?_
 refine oq (op_ld 1 sc_27 rfl rfl rfl) ?_
 refine Zl ?_
 refine Zl ?_
 refine oi (os_call cb_22 rfl (fun w s => Head_calls _ _ _ _  s (by first | assumption | omega) (by first | assumption | omega))) ?_; rintro _ _ ⟨rfl, rfl⟩
 refine Zs ?_
 refine Z4s ?_
 exact px_rv1 rfl (rv_cella 0 ag_24 rfl rfl (rootC_take' _) (by simp [rootC_len])) (l' := Blk pb (.cells #[.slice ao xs.length c, .int .i64 n1, .int .i64 n2, .int .i64 n3, .int .i64 n4, .int .i64 n5, .int .i64 n6, .int .i64 n7, .int .i64 n8, .int .i64 n9, .int .i64 n10, .int .i64 n11, .pointer (some ⟨pt, 0, none⟩), .pointer (some ⟨pw, 0, none⟩), .pointer (some ⟨pv, 0, none⟩)] 131 (0, 0)) :: TreeObj pt t :: WObj pw pt t.nodes o :: l) (fun _ s => ((((s.del 0).pull 1).pull 1).pull 2)) ⟨rfl, rfl⟩

set_option maxRecDepth 100000 in
set_option maxHeartbeats 1000000 in
theorem BWeight_calls {w0 w : World} {l : List HProp} (pb pt pw pv : Nat) (ao : Option Addr) (c : Nat) (xs : List Val) (n1 n2 n3 n4 n5 n6 n7 n8 n9 n10 n11 : Int) (t : TreeS) (o : List Int) (r : Root) (hs : Sat w0 w ((Blk pb (.cells #[.slice ao xs.length c, .int .i64 n1, .int .i64 n2, .int .i64 n3, .int .i64 n4, .int .i64 n5, .int .i64 n6, .int .i64 n7, .int .i64 n8, .int .i64 n9, .int .i64 n10, .int .i64 n11, .pointer (some ⟨pt, 0, none⟩), .pointer (some ⟨pw, 0, none⟩), .pointer (some ⟨pv, 0, none⟩)] 131 (0, 0))) :: (TreeObj pt t) :: (WObj pw pt t.nodes o) :: l))  :
  Calls Try.prog 37 #[.pointer (some ⟨pb, 0, none⟩), .agg (rootC r).toArray] w (Ret w0 fun v l' => v = .int .i64 (ofF t o.length (sumN t.nodes o) r) ∧ l' = Blk pb (.cells #[.slice ao xs.length c, .int .i64 n1, .int .i64 n2, .int .i64 n3, .int .i64 n4, .int .i64 n5, .int .i64 n6, .int .i64 n7, .int .i64 n8, .int .i64 n9, .int .i64 n10, .int .i64 n11, .pointer (some ⟨pt, 0, none⟩), .pointer (some ⟨pw, 0, none⟩), .pointer (some ⟨pv, 0, none⟩)] 131 (0, 0)) :: TreeObj pt t :: WObj pw pt t.nodes o :: l) := by
 refine calls_enter Try.func37 rfl rfl rfl hs ?_
 refine Z3z ?_; intro bx1
 refine Z67 ?_
 refine Z3a ?_
 refine Zn ?_
 refine Z95 ?_
 refine Z6 ?_
 refine Za6 ?_
 refine Za7 ?_
 refine Z17 ?_
 refine rg_i (wn_none rfl) (os_back (os_pull3 (os_pull3 (os_call cb_28 rfl (fun w s => Weight_calls _ _ _ _ _  s )))) (fun _ s => ((((s.pull 1).pull 1).pull 3).pull 3))) rfl rfl ?_; rintro _ _ ⟨rfl, rfl⟩; refine ⟨[], rfl, ?_⟩
 refine Z3q ?_
 refine cd_ret ?_
 exact px_ret1 rfl (v := .int _ _) rfl (fun _ s => (s.del 0)) ⟨rfl, rfl⟩

set_option maxRecDepth 100000 in
set_option maxHeartbeats 1000000 in
theorem BTree_calls {w0 w : World} {l : List HProp} (pb pt pw pv : Nat) (ao : Option Addr) (c : Nat) (xs : List Val) (n1 n2 n3 n4 n5 n6 n7 n8 n9 n10 n11 : Int) (hs : Sat w0 w ((Blk pb (.cells #[.slice ao xs.length c, .int .i64 n1, .int .i64 n2, .int .i64 n3, .int .i64 n4, .int .i64 n5, .int .i64 n6, .int .i64 n7, .int .i64 n8, .int .i64 n9, .int .i64 n10, .int .i64 n11, .pointer (some ⟨pt, 0, none⟩), .pointer (some ⟨pw, 0, none⟩), .pointer (some ⟨pv, 0, none⟩)] 131 (0, 0))) :: l))  :
  Calls Try.prog 36 #[.pointer (some ⟨pb, 0, none⟩)] w (Ret w0 fun v l' => v = .pointer (some ⟨pt, 0, none⟩) ∧ l' = Blk pb (.cells #[.slice ao xs.length c, .int .i64 n1, .int .i64 n2, .int .i64 n3, .int .i64 n4, .int .i64 n5, .int .i64 n6, .int .i64 n7, .int .i64 n8, .int .i64 n9, .int .i64 n10, .int .i64 n11, .pointer (some ⟨pt, 0, none⟩), .pointer (some ⟨pw, 0, none⟩), .pointer (some ⟨pv, 0, none⟩)] 131 (0, 0)) :: l) := by
 refine calls_enter Try.func36 rfl rfl rfl hs ?_
 refine Z31 ?_
 refine Z1 ?_
 refine Z1q ?_
 refine Z67 ?_
 refine Z2c ?_
 refine Z1v ?_
 refine oq (op_field fld_131_1 rfl) ?_
 refine oq (op_ld 0 sc_26 rfl rfl rfl) ?_
 refine Zc ?_
 refine Z1s ?_
 exact px_ret1 rfl (v := .pointer _) rfl (fun _ s => s) ⟨rfl, rfl⟩

set_option maxRecDepth 100000 in
set_option maxHeartbeats 1000000 in
theorem BTable_calls {w0 w : World} {l : List HProp} (pb pt pw pv : Nat) (ao : Option Addr) (c : Nat) (xs : List Val) (n1 n2 n3 n4 n5 n6 n7 n8 n9 n10 n11 : Int) (hs : Sat w0 w ((Blk pb (.cells #[.slice ao xs.length c, .int .i64 n1, .int .i64 n2, .int .i64 n3, .int .i64 n4, .int .i64 n5, .int .i64 n6, .int .i64 n7, .int .i64 n8, .int .i64 n9, .int .i64 n10, .int .i64 n11, .pointer (some ⟨pt, 0, none⟩), .pointer (some ⟨pw, 0, none⟩), .pointer (some ⟨pv, 0, none⟩)] 131 (0, 0))) :: l))  :
  Calls Try.prog 39 #[.pointer (some ⟨pb, 0, none⟩)] w (Ret w0 fun v l' => v = .pointer (some ⟨pv, 0, none⟩) ∧ l' = Blk pb (.cells #[.slice ao xs.length c, .int .i64 n1, .int .i64 n2, .int .i64 n3, .int .i64 n4, .int .i64 n5, .int .i64 n6, .int .i64 n7, .int .i64 n8, .int .i64 n9, .int .i64 n10, .int .i64 n11, .pointer (some ⟨pt, 0, none⟩), .pointer (some ⟨pw, 0, none⟩), .pointer (some ⟨pv, 0, none⟩)] 131 (0, 0)) :: l) := by
 refine calls_enter Try.func39 rfl rfl rfl hs ?_
 refine Z31 ?_
 refine Z1 ?_
 refine Z1q ?_
 refine Z67 ?_
 refine Z2c ?_
 refine Z1v ?_
 refine oq (op_field fld_131_3 rfl) ?_
 refine oq (op_ld 0 sc_79 rfl rfl rfl) ?_
 refine Zc ?_
 refine Z1s ?_
 exact px_ret1 rfl (v := .pointer _) rfl (fun _ s => s) ⟨rfl, rfl⟩
end Go.SL

set_option linter.unusedVariables false
set_option linter.unusedSimpArgs false
namespace Go.SL
theorem goodC_bd {V : SlV} {a0 a1 a2 a3 a4 a5 a6 a7 a8 a9 a10 : Int} {xs : List Val} (h : goodC ⟨V, a0, a1, a2, a3, a4, a5, a6, a7, a8, a9, a10⟩ xs = true) :
    ((1 ≤ a0 ∧ a0 ≤ 32) ∧ (1 ≤ a1 ∧ a1 ≤ 16 ∧ a1 ≤ xs.length) ∧ (1 ≤ a2 ∧ a2 ≤ 256) ∧ (1 ≤ a3 ∧ a3 ≤ 64) ∧ (1 ≤ a4 ∧ a4 ≤ 64) ∧ (1 ≤ a5 ∧ a5 ≤ 64)) ∧ ((1 ≤ a6 ∧ a6 ≤ 16) ∧ (1 ≤ a7 ∧ a7 ≤ 256) ∧ (1 ≤ a8 ∧ a8 ≤ 64) ∧ (1 ≤ a9 ∧ a9 ≤ 1048576) ∧ (1 ≤ a10 ∧ a10 ≤ 1048576)) ∧ (1 ≤ xs.length ∧ xs.length ≤ 64) ∧ (∀ y ∈ xs, y.key.length ≤ 32) := by
  have hv := (goodC_rg h).2.2
  unfold goodC numsC inR at h
  simp at h
  refine ⟨by omega, by omega, by omega, fun y hy => ?_⟩
  have := hv y hy
  unfold valOK at this
  have := of_decide_eq_true this
  exact this.2.2
theorem sg_stk (xs : List Val) : ∀ k, k ≤ xs.length → sg (stk xs) k = sumV (xs.take k) := by
  intro k
  induction k with
  | zero => intro _; rfl
  | succ k ih =>
    intro hk
    rw [sg_succ, ih (by omega), List.take_succ_eq_append_getElem (by omega), sumV_append, stk_get (by omega)]
    simp [sumV]
theorem goodC_stk {q : Cfg} {xs : List Val} (h : goodC q xs = true) : StkOK xs := by
  have h1 : (totF 0 xs).isSome = true := by unfold goodC at h; rw [Bool.and_eq_true] at h; exact h.1
  have h2 := totF_iff (xs := xs) (s := 0) (by decide) (by decide)
  have h3 : (∀ v ∈ xs, valOK v = true) ∧ 0 + sumV xs < 4611686018427387904 := by
    by_cases e : (∀ v ∈ xs, valOK v = true) ∧ 0 + sumV xs < 4611686018427387904
    · exact e
    · rw [if_neg e] at h2; rw [h2] at h1; cases h1
  refine ⟨fun w => ?_, ?_⟩
  · rcases Nat.lt_or_ge w xs.length with hw | hw
    · rw [stk_get hw]
      have := h3.1 _ (List.getElem_mem hw)
      unfold valOK at this
      exact (of_decide_eq_true this).1
    · unfold stk
      rw [List.getD_eq_getElem?_getD, List.getElem?_eq_none hw]
      show (0 : Int) ≤ 0
      omega
  · rw [sg_stk xs _ (Nat.le_refl _), List.take_length]; have := h3.2; omega
theorem newB_own {xs : List Val} {g : Root} {nodes ep : Int} {n : Nat} : ownE xs (effT (TabS.new n ep)) (TreeS.new g 0 nodes).nodes = growO (TreeS.new g 0 nodes).nodes.length [] := by
  rw [new_eff]; exact ownE_none _
end Go.SL

set_option linter.unusedVariables false
set_option linter.unusedSimpArgs false
namespace Go.SL
theorem rt_of_idx {t : TreeS} {r : Root} {b : Nat} (h : idxOf t.nodes r = some b) : rtA t.nodes b = r := by
  obtain ⟨n, h1, h2⟩ := idxOf_some h
  unfold rtA; rw [h1]; exact h2
theorem below_rt {t : TreeS} (hw : t.WF) {a i : Nat} {o : Root} (hia : idxOf t.nodes o = some a) (hi : i < t.nodes.length) : t.below o (rtA t.nodes i) = belI t.nodes a (i : Int) := by
  rw [← rt_of_idx hia]; exact below_at hw (idxOf_lt hia) hi
def alM : List PBlk := [⟨1, 0, 1, 5⟩, ⟨2, 0, 1, 3⟩, ⟨3, 1, 2, 4⟩]
end Go.SL

set_option linter.unusedVariables false
set_option linter.unusedSimpArgs false
namespace Go.SL
open Go.Proofs

/-- the reference's weights: their block and row -/
def RWObj (pm pr : Nat) (o : List Int) : HProp := ex fun x : Option Addr × Nat => match x with | (a4, c4) => stars [Blk pm (.cells #[.pointer (some ⟨pr, 0, none⟩), .slice a4 o.length c4, .int .i64 (o.length : Int)] 47 (0, 0)), Row 3 encI64 (.slice a4 o.length c4) o]
theorem Sat.rwOpen {w0 w : World} {l : List HProp} {pm pr : Nat} {o : List Int} (s : Sat w0 w (RWObj pm pr o :: l)) : ∃ a4 c4, Sat w0 w (Blk pm (.cells #[.pointer (some ⟨pr, 0, none⟩), .slice a4 o.length c4, .int .i64 (o.length : Int)] 47 (0, 0)) :: Row 3 encI64 (.slice a4 o.length c4) o :: l) := by
 obtain ⟨⟨a4, c4⟩, s⟩ := Sat.ex_iff.1 s
 exact ⟨a4, c4, Sat.stars_iff.1 s⟩
theorem Sat.rwMk {w0 w : World} {l : List HProp} {pm pr : Nat} {o : List Int} {a4 : Option Addr} {c4 m1 m2 : Nat} (h1 : m1 = o.length) (h2 : m2 = o.length) (s : Sat w0 w (Blk pm (.cells #[.pointer (some ⟨pr, 0, none⟩), .slice a4 m1 c4, .int .i64 (m2 : Int)] 47 (0, 0)) :: Row 3 encI64 (.slice a4 m1 c4) o :: l)) : Sat w0 w (RWObj pm pr o :: l) := by
 subst h1 h2
 exact Sat.ex_iff.2 ⟨(a4, c4), Sat.stars_iff.2 s⟩

set_option maxRecDepth 100000 in
set_option maxHeartbeats 1000000 in
theorem RplW_calls {w0 w : World} {l : List HProp} (pm pr : Nat) (t : TreeS) (a1 a2 a3 a4 : Option Addr) (c1 c2 c3 c4 : Nat) (R : List Root) (Sl : List Int) (Pa : List Root) (o : List Int) (r : Root) (hs : Sat w0 w ((Blk pr (.cells #[.slice a1 R.length c1, .slice a2 Sl.length c2, .slice a3 Pa.length c3, .int .i64 t.most] 44 (0, 0))) :: (Row 24 encRoot (.slice a1 R.length c1) R) :: (Row 3 encI64 (.slice a2 Sl.length c2) Sl) :: (Row 24 encRoot (.slice a3 Pa.length c3) Pa) :: (Blk pm (.cells #[.pointer (some ⟨pr, 0, none⟩), .slice a4 o.length c4, .int .i64 (o.length : Int)] 47 (0, 0))) :: (Row 3 encI64 (.slice a4 o.length c4) o) :: l)) (hw : t.WF) (hR : RTreeOf t R Sl Pa) (h1 : o.length ≤ t.nodes.length) :
  Calls Try.prog 59 #[.pointer (some ⟨pm, 0, none⟩), .agg (rootC r).toArray] w (Ret w0 fun v l' => v = .int .i64 (rplW t o.length r) ∧ l' = Blk pr (.cells #[.slice a1 R.length c1, .slice a2 Sl.length c2, .slice a3 Pa.length c3, .int .i64 t.most] 44 (0, 0)) :: Row 24 encRoot (.slice a1 R.length c1) R :: Row 3 encI64 (.slice a2 Sl.length c2) Sl :: Row 24 encRoot (.slice a3 Pa.length c3) Pa :: Blk pm (.cells #[.pointer (some ⟨pr, 0, none⟩), .slice a4 o.length c4, .int .i64 (o.length : Int)] 47 (0, 0)) :: Row 3 encI64 (.slice a4 o.length c4) o :: l) := by
 have hle := hw.le; have hm2 := hw.m2; have hpa := hw.pa; have hnd := hw.nd
 have hRl : R.length = t.nodes.length := by rw [hR.r, List.length_map]
 have hSl : Sl.length = t.nodes.length := by rw [hR.s, List.length_map]
 have hPl : Pa.length = t.nodes.length := by rw [hR.p]; unfold parR; rw [List.length_map]
 have hpl : ∀ r, rplace R r = t.place r := fun r => by rw [hR.r, rplace_map]
 refine calls_enter Try.func59 rfl rfl rfl hs ?_
 refine Zj ?_; intro bx1
 refine Z8 ?_
 refine Z7 ?_
 refine Z95 ?_
 refine Z6 ?_
 refine Z96 ?_
 refine rg_q (wn_none rfl) (op_ld 5 sc_45 rfl rfl rfl) rfl rfl ?_
 refine Z17 ?_
 refine rg_i (wn_none rfl) (os_back (os_pull2 (os_pull2 (os_call cb_49 rfl (fun w s => RPlaceO_calls _ _ _ _ _ _ _ _  s )))) (fun _ s => (((((((s.pull 6).pull 6).pull 6).pull 6).pull 5).pull 5).pull 6))) rfl rfl ?_; rintro _ _ ⟨rfl, rfl⟩; rw [hpl]; refine ⟨[], rfl, ?_⟩
 refine Z3q ?_
 refine Zf ?_
 refine Z1p ?_
 refine Zr ?_
 refine oq (op_field fld_47_2 rfl) ?_
 refine oq (op_ld 5 sc_3 rfl rfl rfl) ?_
 refine Z3s ?_
 refine cd_cond rfl (fun hb1 => ?_) (fun hb1 => ?_)
 ·have hp1 := hb1
  (try simp only [bn] at hp1)
  refine Z1y ?_
  exact px_ret1 rfl (v := .int _ _) rfl (fun _ s => (s.del 0)) ⟨congrArg (Value.int .i64) (by unfold rplW; rw [if_pos (by omega)]), rfl⟩
 have hp1 := hb1
 (try simp only [bn] at hp1)
 refine Z3y ?_
 exact px_ret1 rfl (v := .int _ _) rfl (fun _ s => (s.del 0)) ⟨congrArg (Value.int .i64) (by unfold rplW; rw [if_neg (by omega)]), rfl⟩

end Go.SL

set_option linter.unusedVariables false
set_option linter.unusedSimpArgs false
namespace Go.SL
open Go.Proofs

set_option maxRecDepth 100000 in
set_option maxHeartbeats 1000000 in
theorem RWNew_calls {w0 w : World} {l : List HProp} (pr : Nat) (t : TreeS) (hs : Sat w0 w ((RTreeObj pr t) :: l))  :
  Calls Try.prog 51 #[.pointer (some ⟨pr, 0, none⟩)] w (Ret w0 fun v l' => ∃ pm, v = .pointer (some ⟨pm, 0, none⟩) ∧ l' = RWObj pm pr (growO t.nodes.length []) :: RTreeObj pr t :: l) := by
 obtain ⟨a1, c1, a2, c2, a3, c3, R, Sl, Pa, hw, hR, hs⟩ := hs.rtreeOpen
 have hle := hw.le; have hm2 := hw.m2; have hpa := hw.pa; have hnd := hw.nd
 have hRl : R.length = t.nodes.length := by rw [hR.r, List.length_map]
 have hSl : Sl.length = t.nodes.length := by rw [hR.s, List.length_map]
 have hPl : Pa.length = t.nodes.length := by rw [hR.p]; unfold parR; rw [List.length_map]
 have hpl : ∀ r, rplace R r = t.place r := fun r => by rw [hR.r, rplace_map]
 refine calls_enter Try.func51 rfl rfl rfl hs ?_
 refine Z31 ?_
 refine Z39 ?_
 refine cd_drawt (M := []) mx [6] 13 (by kernel_rfl) rfl rfl ?_
 dsimp only [List.take_succ_cons, List.take_zero, List.drop_succ_cons, List.drop_zero]
 refine Zd ?_
 refine Z6 ?_
 refine Z71 ?_
 refine Z72 ?_
 refine rg_q (wn_none rfl) (op_len_slice Try.underlying37 rfl) rfl rfl ?_
 refine rg_i (wn_none rfl) (os_make (E := encI64) (R.length) (0) sB_42 zv_3 rfl rfl rfl rfl (by omega) (by unfold maxLen; omega)) rfl rfl ?_; rintro _ _ ⟨ao1, rfl, rfl⟩; refine ⟨[_], rfl, ?_⟩
 refine Z6 ?_
 refine Z71 ?_
 refine Z72 ?_
 refine rg_q (wn_none rfl) (op_len_slice Try.underlying37 rfl) rfl rfl ?_
 refine rg_q (wn_none rfl) (op_build (L := [_, _, _]) (vs := [(0, .pointer _), (1, .slice _ _ _), (2, .int _ _)]) bB_47 rfl ⟨⟨rfl, rfl⟩, ⟨rfl, rfl⟩, ⟨rfl, rfl⟩, trivial⟩ rfl) rfl rfl ?_
 refine rg_tail1 ?_
 refine Z2f ?_; intro bx1
 refine Zc ?_
 refine Z1s ?_
 exact px_ret1 rfl (v := .pointer _) (l' := RWObj bx1 pr (growO t.nodes.length []) :: RTreeObj pr t :: l) rfl (fun _ s => by
  have s2 : Sat _ _ (Blk pr (.cells #[.slice a1 R.length c1, .slice a2 Sl.length c2, .slice a3 Pa.length c3, .int .i64 t.most] 44 (0, 0)) :: Row 24 encRoot (.slice a1 R.length c1) R :: Row 3 encI64 (.slice a2 Sl.length c2) Sl :: Row 24 encRoot (.slice a3 Pa.length c3) Pa :: Blk bx1 _ :: Row _ _ _ _ :: l) := ((((((s.pull 1).pull 1).pull 5).pull 5).pull 5).pull 5)
  have s3 := Sat.rtreeMk hw hR rfl rfl rfl s2
  have s4 : Sat _ _ (RWObj bx1 pr (growO t.nodes.length []) :: RTreeObj pr t :: l) := Sat.rwMk (m1 := (List.replicate R.length (0 : Int)).length) (m2 := R.length) (by rw [hRl]; simp [growO]) (by rw [hRl]; simp [growO]) (by have s5 := (s3.pull 2).pull 2; rw [show growO t.nodes.length [] = List.replicate R.length 0 by rw [hRl]; rfl]; exact s5)
  exact s4) ⟨_, rfl, rfl⟩

end Go.SL

set_option linter.unusedVariables false
set_option linter.unusedSimpArgs false
namespace Go.SL
open Go.Proofs

theorem cd_rwOpen {w0 : World} {n : Nat} {Q : Exit → Act → World → Prop} {f : Fr} {c : Code} {l : List HProp} {pm pr : Nat} {o : List Int} (h : ∀ a4 c4, CD Try.prog w0 n c Q f (Blk pm (.cells #[.pointer (some ⟨pr, 0, none⟩), .slice a4 o.length c4, .int .i64 (o.length : Int)] 47 (0, 0)) :: Row 3 encI64 (.slice a4 o.length c4) o :: l)) : CD Try.prog w0 n c Q f (RWObj pm pr o :: l) := fun a w r s =>
 let ⟨a4, c4, s'⟩ := s.rwOpen
 h a4 c4 a w r s'
theorem cd_rtreeOpen {w0 : World} {n : Nat} {Q : Exit → Act → World → Prop} {f : Fr} {c : Code} {l : List HProp} {pr : Nat} {t : TreeS} (h : ∀ a1 c1 a2 c2 a3 c3 R Sl Pa, t.WF → RTreeOf t R Sl Pa → CD Try.prog w0 n c Q f (Blk pr (.cells #[.slice a1 R.length c1, .slice a2 Sl.length c2, .slice a3 Pa.length c3, .int .i64 t.most] 44 (0, 0)) :: Row 24 encRoot (.slice a1 R.length c1) R :: Row 3 encI64 (.slice a2 Sl.length c2) Sl :: Row 24 encRoot (.slice a3 Pa.length c3) Pa :: l)) : CD Try.prog w0 n c Q f (RTreeObj pr t :: l) := fun a w r s =>
 let ⟨a1, c1, a2, c2, a3, c3, R, Sl, Pa, hw, hR, s'⟩ := s.rtreeOpen
 h a1 c1 a2 c2 a3 c3 R Sl Pa hw hR a w r s'
theorem Sat.rwtPack {w0 w : World} {l : List HProp} {pm pr : Nat} {t : TreeS} {a1 a2 a3 a4 : Option Addr} {c1 c2 c3 c4 : Nat} {R : List Root} {Sl : List Int} {Pa : List Root} {o : List Int} (hw : t.WF) (hR : RTreeOf t R Sl Pa) (s : Sat w0 w (Blk pm (.cells #[.pointer (some ⟨pr, 0, none⟩), .slice a4 o.length c4, .int .i64 (o.length : Int)] 47 (0, 0)) :: Row 3 encI64 (.slice a4 o.length c4) o :: Blk pr (.cells #[.slice a1 R.length c1, .slice a2 Sl.length c2, .slice a3 Pa.length c3, .int .i64 t.most] 44 (0, 0)) :: Row 24 encRoot (.slice a1 R.length c1) R :: Row 3 encI64 (.slice a2 Sl.length c2) Sl :: Row 24 encRoot (.slice a3 Pa.length c3) Pa :: l)) : Sat w0 w (RTreeObj pr t :: RWObj pm pr o :: l) := by
 have s2 : Sat _ _ (RWObj pm pr o :: Blk pr (.cells #[.slice a1 R.length c1, .slice a2 Sl.length c2, .slice a3 Pa.length c3, .int .i64 t.most] 44 (0, 0)) :: Row 24 encRoot (.slice a1 R.length c1) R :: Row 3 encI64 (.slice a2 Sl.length c2) Sl :: Row 24 encRoot (.slice a3 Pa.length c3) Pa :: l) := Sat.rwMk rfl rfl s
 have s3 : Sat _ _ (Blk pr (.cells #[.slice a1 R.length c1, .slice a2 Sl.length c2, .slice a3 Pa.length c3, .int .i64 t.most] 44 (0, 0)) :: Row 24 encRoot (.slice a1 R.length c1) R :: Row 3 encI64 (.slice a2 Sl.length c2) Sl :: Row 24 encRoot (.slice a3 Pa.length c3) Pa :: RWObj pm pr o :: l) := (((s2.pull 4).pull 4).pull 4).pull 4
 exact Sat.rtreeMk hw hR rfl rfl rfl s3

set_option maxRecDepth 100000 in
set_option maxHeartbeats 1000000 in
theorem ROwnOfO_calls {w0 w : World} {l : List HProp} (pm pr : Nat) (t : TreeS) (a1 a2 a3 a4 : Option Addr) (c1 c2 c3 c4 : Nat) (R : List Root) (Sl : List Int) (Pa : List Root) (o : List Int) (r : Root) (hs : Sat w0 w ((Blk pr (.cells #[.slice a1 R.length c1, .slice a2 Sl.length c2, .slice a3 Pa.length c3, .int .i64 t.most] 44 (0, 0))) :: (Row 24 encRoot (.slice a1 R.length c1) R) :: (Row 3 encI64 (.slice a2 Sl.length c2) Sl) :: (Row 24 encRoot (.slice a3 Pa.length c3) Pa) :: (Blk pm (.cells #[.pointer (some ⟨pr, 0, none⟩), .slice a4 o.length c4, .int .i64 (o.length : Int)] 47 (0, 0))) :: (Row 3 encI64 (.slice a4 o.length c4) o) :: l)) (hw : t.WF) (hR : RTreeOf t R Sl Pa) (h1 : o.length ≤ t.nodes.length) :
  Calls Try.prog 27 #[.pointer (some ⟨pm, 0, none⟩), .agg (rootC r).toArray] w (Ret w0 fun v l' => v = .int .i64 (ofF t o.length (oA o) r) ∧ l' = Blk pr (.cells #[.slice a1 R.length c1, .slice a2 Sl.length c2, .slice a3 Pa.length c3, .int .i64 t.most] 44 (0, 0)) :: Row 24 encRoot (.slice a1 R.length c1) R :: Row 3 encI64 (.slice a2 Sl.length c2) Sl :: Row 24 encRoot (.slice a3 Pa.length c3) Pa :: Blk pm (.cells #[.pointer (some ⟨pr, 0, none⟩), .slice a4 o.length c4, .int .i64 (o.length : Int)] 47 (0, 0)) :: Row 3 encI64 (.slice a4 o.length c4) o :: l) := by
 have hle := hw.le; have hm2 := hw.m2; have hpa := hw.pa; have hnd := hw.nd; have hne := hw.ne
 have hRl : R.length = t.nodes.length := by rw [hR.r, List.length_map]
 have hSl : Sl.length = t.nodes.length := by rw [hR.s, List.length_map]
 have hPl : Pa.length = t.nodes.length := by rw [hR.p]; unfold parR; rw [List.length_map]
 have hpl : ∀ r, rplace R r = t.place r := fun r => by rw [hR.r, rplace_map]
 have hrp := ofF_rpl (t := t) (n := o.length) (f := (oA o)) (r := r)
 refine calls_enter Try.func27 rfl rfl rfl hs ?_
 refine Z3z ?_; intro bx1
 refine Z2k ?_
 refine Z25 ?_
 refine Z25 ?_
 refine Z25 ?_
 refine Z25 ?_
 refine Z25 ?_
 refine Z25 ?_
 refine oi (os_call cb_59 rfl (fun w s => RplW_calls _ _ _ _ _ _ _ _ _ _ _ _ _ _ _ _  s (by assumption) (by assumption) (by assumption))) ?_; rintro _ _ ⟨rfl, rfl⟩
 refine Z1r ?_
 refine Z3s ?_
 refine cd_cond rfl (fun hb1 => ?_) (fun hb1 => ?_)
 ·have hp1 := hb1
  (try simp only [bn] at hp1)
  obtain ⟨i, hri, hin, hof⟩ : ∃ i : Nat, rplW t o.length r = i ∧ i < o.length ∧ ofF t o.length (oA o) r = (oA o) i := by
   rcases hrp with ⟨h, _⟩ | h
   ·omega
   exact h
  rw [hri]
  refine Z1v ?_
  refine oq (op_field fld_47_1 rfl) ?_
  refine oq (op_ld 4 sc_42 rfl rfl rfl) ?_
  refine Z4 ?_
  refine oq (op_index i sB_42 rfl rfl rfl (rds_row 5 rfl rfl) rfl (by omega)) ?_
  refine oq (op_ldw sc_3 (rds_row 5 rfl rfl) rfl (by omega) rfl) ?_
  refine Zp ?_
  refine Z13 ?_
  exact px_ret1 rfl (v := .int _ _) rfl (fun _ s => (s.del 6)) ⟨congrArg (Value.int .i64) (by rw [hof]; exact (oA_get _).symm), rfl⟩
 have hp1 := hb1
 (try simp only [bn] at hp1)
 refine Za ?_
 refine Z1c ?_
 exact px_ret1 rfl (v := .int _ _) rfl (fun _ s => (s.del 6)) ⟨congrArg (Value.int .i64) (by rcases hrp with ⟨_, h⟩ | ⟨i, h, _⟩; exact h.symm; omega), rfl⟩

set_option maxRecDepth 100000 in
set_option maxHeartbeats 1000000 in
theorem RPAllN_calls {w0 w : World} {l : List HProp} (pm pr : Nat) (t : TreeS) (o : List Int) (r : Root) (hs : Sat w0 w ((RTreeObj pr t) :: (RWObj pm pr o) :: l)) (hi : idxOf t.nodes r = none) :
  Calls Try.prog 18 #[.pointer (some ⟨pm, 0, none⟩), .agg (rootC r).toArray] w (Ret w0 fun v l' => v = .tuple #[.pointer none, .bool false] ∧ l' = RTreeObj pr t :: RWObj pm pr o :: l) := by
 obtain ⟨a1, c1, a2, c2, a3, c3, R, Sl, Pa, hw, hR, hs⟩ := hs.rtreeOpen
 obtain ⟨a4, c4, hs⟩ := (hs.pull 4).rwOpen
 have hle := hw.le; have hm2 := hw.m2; have hpa := hw.pa; have hnd := hw.nd; have hne := hw.ne
 have hRl : R.length = t.nodes.length := by rw [hR.r, List.length_map]
 have hSl : Sl.length = t.nodes.length := by rw [hR.s, List.length_map]
 have hPl : Pa.length = t.nodes.length := by rw [hR.p]; unfold parR; rw [List.length_map]
 have hpl : ∀ r, rplace R r = t.place r := fun r => by rw [hR.r, rplace_map]
 have hpl0 : t.place r = -1 := by unfold TreeS.place; rw [hi]
 refine calls_enter Try.func18 rfl rfl rfl hs ?_
 refine Zj ?_; intro bx1
 refine Z4u ?_
 refine Z7 ?_
 refine Z95 ?_
 refine Z6 ?_
 refine Z96 ?_
 refine Z8a ?_
 refine Z17 ?_
 refine rg_i (wn_none rfl) (os_back (os_pull4 (os_pull4 (os_call cb_49 rfl (fun w s => RPlaceO_calls _ _ _ _ _ _ _ _  s )))) (fun _ s => (((((((s.pull 6).pull 6).pull 3).pull 3).pull 6).pull 6).pull 6))) rfl rfl ?_; rintro _ _ ⟨rfl, rfl⟩; rw [hpl, hpl0]; refine ⟨[], rfl, ?_⟩
 refine Z3q ?_
 refine Zf ?_
 refine Z3u ?_
 refine cd_cond rfl (fun hb1 => ?_) (fun hb1 => ?_)
 ·have hp1 := hb1
  (try simp only [bn] at hp1)
  refine Z31 ?_
  refine Zv ?_
  exact px_ret2 rfl (v1 := .pointer _) (v2 := .bool _) (l' := RTreeObj pr t :: RWObj pm pr o :: l) rfl rfl (fun _ s => ((s.del 0)).rwtPack hw hR) ⟨rfl, rfl⟩
 have hp1 := hb1
 (try simp only [bn] at hp1)
 exact absurd hb1 (by decide)

set_option maxRecDepth 100000 in
set_option maxHeartbeats 1000000 in
theorem RPAllS_calls {w0 w : World} {l : List HProp} (pm pr : Nat) (t : TreeS) (o : List Int) (r : Root) (a : Nat) (hs : Sat w0 w ((RTreeObj pr t) :: (RWObj pm pr o) :: l)) (hi : idxOf t.nodes r = some a) (h1 : o.length ≤ t.nodes.length) :
  Calls Try.prog 18 #[.pointer (some ⟨pm, 0, none⟩), .agg (rootC r).toArray] w (Ret w0 fun v l' => ∃ qm qr, v = .tuple #[.pointer (some ⟨qm, 0, none⟩), .bool true] ∧ l' = RTreeObj qr (prT t a) :: RWObj qm qr (prO t.nodes a o) :: RTreeObj pr t :: RWObj pm pr o :: l) := by
 obtain ⟨a1, c1, a2, c2, a3, c3, R, Sl, Pa, hw, hR, hs⟩ := hs.rtreeOpen
 obtain ⟨a4, c4, hs⟩ := (hs.pull 4).rwOpen
 have hle := hw.le; have hm2 := hw.m2; have hpa := hw.pa; have hnd := hw.nd; have hne := hw.ne
 have hRl : R.length = t.nodes.length := by rw [hR.r, List.length_map]
 have hSl : Sl.length = t.nodes.length := by rw [hR.s, List.length_map]
 have hPl : Pa.length = t.nodes.length := by rw [hR.p]; unfold parR; rw [List.length_map]
 have hpl : ∀ r, rplace R r = t.place r := fun r => by rw [hR.r, rplace_map]
 have hla := idxOf_lt hi
 have hpl0 : t.place r = (a : Int) := by unfold TreeS.place; rw [hi]
 have hRr : ∀ q (h : q < R.length), R[q] = rtA t.nodes q := fun q h => by simp only [hR.r, List.getElem_map]; exact (rtA_get (by omega)).symm
 have hSr : ∀ q (h : q < Sl.length), Sl[q] = slA t.nodes q := fun q h => by simp only [hR.s, List.getElem_map]; exact (slA_get (by omega)).symm
 have hPr : ∀ q (h : q < Pa.length), q ≠ a → Pa[q] = upR t.nodes a q := fun q h hq => by unfold upR; rw [if_neg hq, List.getD_eq_getElem?_getD, List.getElem?_eq_getElem (by rw [← hR.p]; exact h)]; simp only [hR.p]; rfl
 refine calls_enter Try.func18 rfl rfl rfl hs ?_
 refine Zj ?_; intro bx1
 refine Z4u ?_
 refine Z7 ?_
 refine Z95 ?_
 refine Z6 ?_
 refine Z96 ?_
 refine Z8a ?_
 refine Z17 ?_
 refine rg_i (wn_none rfl) (os_back (os_pull4 (os_pull4 (os_call cb_49 rfl (fun w s => RPlaceO_calls _ _ _ _ _ _ _ _  s )))) (fun _ s => (((((((s.pull 6).pull 6).pull 3).pull 3).pull 6).pull 6).pull 6))) rfl rfl ?_; rintro _ _ ⟨rfl, rfl⟩; rw [hpl, hpl0]; refine ⟨[], rfl, ?_⟩
 refine Z3q ?_
 refine Zf ?_
 refine Z3u ?_
 refine cd_cond rfl (fun hb1 => ?_) (fun hb1 => ?_)
 ·have hp1 := hb1
  (try simp only [bn] at hp1)
  omega
 have hp1 := hb1
 (try simp only [bn] at hp1)
 refine Za ?_
 refine Z1v ?_
 refine oq (op_field fld_47_0 rfl) ?_
 refine oq (op_ld 1 sc_45 rfl rfl rfl) ?_
 refine Zr ?_
 refine oq (op_field fld_44_3 rfl) ?_
 refine oq (op_ld 3 sc_3 rfl rfl rfl) ?_
 refine oq (op_build (L := [_, _, _, _]) (vs := [(3, .int _ _)]) bB_44 rfl ⟨⟨rfl, rfl⟩, trivial⟩ rfl) ?_
 refine Z2f ?_; intro bx2
 refine Zc ?_
 refine Z19 ?_
 refine Zw ?_
 refine Z1 ?_
 refine Z1q ?_
 refine Zr ?_
 refine oq (op_field fld_47_0 rfl) ?_
 refine oq (op_ld 2 sc_45 rfl rfl rfl) ?_
 refine Z9a ?_
 refine oq (op_ld 4 sc_37 rfl rfl rfl) ?_
 refine oq (op_len_slice Try.underlying37 rfl) ?_
 refine Z1l ?_
 refine cd_imp (fun _ s => Sat.rowNil (E := encI64) (e := 3) s) ?_
 refine cd_imp (fun _ s => Sat.rowNil (E := encRoot) (e := 24) s) ?_
 refine cd_imp (fun _ s => Sat.rowNil (E := encI64) (e := 3) s) ?_
 refine cd_imp (fun _ s => Sat.rowNil (E := encRoot) (e := 24) s) ?_
 refine cd_pull4 ?_
 refine cd_loop2 (α := Nat × Option Addr × Nat × Option Addr × Nat × Option Addr × Nat × Option Addr × Nat) [(8, 11), (37, 109)] (fun x => [(8, .slice x.2.2.2.2.2.2.2.1 (prOm t.nodes a x.1 o).length x.2.2.2.2.2.2.2.2), (37, .int .i64 (x.1 : Int))]) (fun x => Blk bx2 (.cells #[.slice x.2.1 (prR t.nodes a x.1).length x.2.2.1, .slice x.2.2.2.1 (prS t.nodes a x.1).length x.2.2.2.2.1, .slice x.2.2.2.2.2.1 (prP t.nodes a x.1).length x.2.2.2.2.2.2.1, .int .i64 t.most] 44 (0, 0)) :: Row 24 encRoot (.slice x.2.1 (prR t.nodes a x.1).length x.2.2.1) (prR t.nodes a x.1) :: Row 3 encI64 (.slice x.2.2.2.1 (prS t.nodes a x.1).length x.2.2.2.2.1) (prS t.nodes a x.1) :: Row 24 encRoot (.slice x.2.2.2.2.2.1 (prP t.nodes a x.1).length x.2.2.2.2.2.2.1) (prP t.nodes a x.1) :: Row 3 encI64 (.slice x.2.2.2.2.2.2.2.1 (prOm t.nodes a x.1 o).length x.2.2.2.2.2.2.2.2) (prOm t.nodes a x.1 o) :: _) (fun x => x.1 ≤ t.nodes.length) (fun x => t.nodes.length - x.1) (0, none, 0, none, 0, none, 0, none, 0) (Nat.zero_le _) ⟨rfl, rfl, trivial⟩ (fun _ s => s) ?_
 rintro ⟨i, b1, d1, b2, d2, b3, d3, b4, d4⟩ hi2 f; (try dsimp only at hi2 ⊢)
 refine Zx ?_
 refine cd_cond rfl (fun hb2 => ?_) (fun hb2 => ?_)
 ·have hp2 := hb2
  (try simp only [bn] at hp2)
  have hi1 : i < t.nodes.length := by omega
  refine Z2t ?_
  refine oq (op_index i sB_37 rfl rfl rfl (rds_row 9 rfl rfl) rfl (by omega)) ?_
  refine oq (op_ldaw (L := rootC _) ag_24 (rds_row 9 rfl rfl) rfl (by omega) rfl (rootC_ta _)) ?_
  refine Z1w ?_; intro bx3
  refine Zq ?_
  refine Z4h ?_
  refine Z39 ?_
  rw [hRr i (by omega)]
  refine Z7 ?_
  refine cd_draw (M := []) mx [6] (by kernel_rfl) ?_
  refine Z6 ?_
  refine Z96 ?_
  refine rg_q (wn_none rfl) (op_ld 7 sc_45 rfl rfl rfl) rfl rfl ?_
  refine rg_q (wn_none rfl) (op_lda (L := rootC _) 6 ag_24 rfl rfl (rootC_take' _) (by simp [rootC_len])) rfl rfl ?_
  refine Z17 ?_
  refine rg_i (wn_none rfl) (os_back (os_pull12 (os_pull12 (os_pull12 (os_pull12 (os_call cb_54 rfl (fun w s => RBelowO_calls _ _ _ _ _ _ _ _ _ _ _ _ _  s (by assumption) (by assumption))))))) (fun _ s => ((((s.push 12).push 12).push 12).push 12))) rfl rfl ?_; rintro _ l ⟨rfl, rfl⟩; rw [below_rt hw hi hi1]; refine ⟨[], rfl, ?_⟩
  refine rg_q (wn_none rfl) (op_not rfl) rfl rfl ?_
  refine Z1a ?_
  refine cd_cond rfl (fun hb3 => ?_) (fun hb3 => ?_)
  ·have hp3 := hb3
   (try simp only [bn] at hp3)
   have hbe : ¬ belI t.nodes a (i : Int) = true := by simpa using hb3
   have eR : (prR t.nodes a (i + 1)) = (prR t.nodes a i) := by unfold prR; rw [selI_succ, if_neg hbe]
   have eS : (prS t.nodes a (i + 1)) = (prS t.nodes a i) := by unfold prS; rw [selI_succ, if_neg hbe]
   have eP : (prP t.nodes a (i + 1)) = (prP t.nodes a i) := by unfold prP; rw [selI_succ, if_neg hbe]
   have eO : (prOm t.nodes a (i + 1) o) = (prOm t.nodes a i o) := by unfold prOm; rw [selI_succ, if_neg hbe]
   refine cd_exit ?_
   refine Zai ?_
   refine px_then ?_
   refine Z1b ?_
   refine Zb6 ?_
   refine px_loop2 (i + 1, b1, d1, b2, d2, b3, d3, b4, d4) (by dsimp only; omega) (by (try dsimp only); omega) ⟨congrArg (fun q => Value.slice b4 (List.length q) d4) eO.symm, congrArg (Value.int .i64) (by simp), trivial⟩ ?_ (fun _ s => (by (try dsimp only); rw [eR, eS, eP, eO]; exact (s.del 0)))
   exact Z2
  have hp3 := hb3
  (try simp only [bn] at hp3)
  have hbe : belI t.nodes a (i : Int) = true := by simpa using hb3
  have eR : (prR t.nodes a (i + 1)) = (prR t.nodes a i) ++ [rtA t.nodes i] := by unfold prR; rw [selI_succ, if_pos hbe, List.map_append]; rfl
  have eS : (prS t.nodes a (i + 1)) = (prS t.nodes a i) ++ [slA t.nodes i] := by unfold prS; rw [selI_succ, if_pos hbe, List.map_append]; rfl
  have eP : (prP t.nodes a (i + 1)) = (prP t.nodes a i) ++ [upR t.nodes a i] := by unfold prP; rw [selI_succ, if_pos hbe, List.map_append]; rfl
  have eO : (prOm t.nodes a (i + 1) o) = (prOm t.nodes a i o) ++ [oA o i] := by unfold prOm; rw [selI_succ, if_pos hbe, List.map_append]; rfl
  refine Za ?_
  refine cd_pull2 ?_
  refine Z7 ?_
  refine Z8q ?_
  dsimp only [List.take_succ_cons, List.take_zero, List.drop_succ_cons, List.drop_zero]
  refine Zd ?_
  refine Z6 ?_
  refine Z71 ?_
  refine rg_q (wn_none rfl) (op_ld 1 sc_37 rfl rfl rfl) rfl rfl ?_
  refine Z17 ?_
  refine Z8r ?_; intro ao1
  refine Zb5 ?_; intro ao2 ac2
  refine rg_tail2 ?_
  refine Z9a ?_
  refine Zl ?_
  refine Z8s ?_
  refine Z1 ?_
  refine cd_pull4 ?_
  refine Z7 ?_
  refine cd_drawt (M := [_]) mx [15, 16] 17 (by kernel_rfl) rfl rfl ?_
  dsimp only [List.take_succ_cons, List.take_zero, List.drop_succ_cons, List.drop_zero]
  refine Zd ?_
  refine Z6 ?_
  refine rg_q (wn_none rfl) (op_field fld_44_1 rfl) rfl rfl ?_
  refine Z9j ?_
  refine Z6 ?_
  refine Z96 ?_
  refine rg_q (wn_none rfl) (op_ld 7 sc_45 rfl rfl rfl) rfl rfl ?_
  refine Z9e ?_
  refine rg_q (wn_none rfl) (op_field fld_44_1 rfl) rfl rfl ?_
  refine rg_q (wn_none rfl) (op_ld 9 sc_42 rfl rfl rfl) rfl rfl ?_
  refine Ze ?_
  refine rg_q (wn_none rfl) (op_index i sB_42 rfl rfl rfl (rds_row 11 rfl rfl) rfl (by omega)) rfl rfl ?_
  refine rg_q (wn_none rfl) (op_ldw sc_3 (rds_row 11 rfl rfl) rfl (by omega) rfl) rfl rfl ?_
  refine rg_i (wn_none rfl) (os_bslice (E := encI64) [_] (ys := [_]) sB_42 zv_3 rfl rfl rfl rfl (by decide)) rfl rfl ?_; rintro _ _ ⟨ao3, rfl, rfl⟩; refine ⟨[_, _], rfl, ?_⟩
  refine rg_i (wn_none rfl) (os_pull1 (os_append (E := encI64) rfl sB_42 zv_3 rfl rfl rfl (fun w s => (rds_row 1 rfl rfl) [] w s) rfl (by simp; have := rk_le t.nodes a i; have := (rfl : (prR t.nodes a i).length = _); simp [prR, prS, prP, prOm] at *; unfold rk at *; omega) (by unfold maxLen; simp; have := rk_le t.nodes a i; have := (rfl : (prR t.nodes a i).length = _); simp [prR, prS, prP, prOm] at *; unfold rk at *; omega))) rfl rfl ?_; rintro _ _ ⟨ao4, ac4, rfl, rfl⟩; refine ⟨[_, _], rfl, ?_⟩
  refine rg_tail2 ?_
  refine Zr ?_
  refine oq (op_field fld_44_1 rfl) ?_
  refine Zs ?_
  refine Zap ?_
  refine Z1 ?_
  rw [hSr i (by omega)]
  refine Z1v ?_
  refine oq (op_field fld_47_0 rfl) ?_
  refine oq (op_ld 9 sc_45 rfl rfl rfl) ?_
  refine Z9b ?_
  refine oq (op_ld 11 sc_37 rfl rfl rfl) ?_
  refine Z4 ?_
  refine oq (op_index i sB_37 rfl rfl rfl (rds_row 14 rfl rfl) rfl (by omega)) ?_
  refine oq (op_ldaw (L := rootC _) ag_24 (rds_row 14 rfl rfl) rfl (by omega) rfl (rootC_ta _)) ?_
  refine Z1w ?_; intro bx4
  refine Z4h ?_
  refine Z1 ?_
  refine Zf ?_
  refine Z4 ?_
  refine Z54 ?_
  refine Z1 ?_
  refine cd_cond rfl (fun hb4 => ?_) (fun hb4 => ?_)
  ·have hp4 := hb4
   (try simp only [bn] at hp4)
   have hup : Root.zero = upR t.nodes a i := by unfold upR; rw [if_pos (by omega)]
   refine Z1b ?_
   refine oq (op_buildr rfl rB_24 zBr_24) ?_
   refine oN (os_storera _ ag_24 rfl rfl (Free.zero _)) ?_; rintro _ _ ⟨rfl, rfl⟩; rw [hup]
   refine Zd0 ?_
   refine cd_pull7 ?_
   refine Z7 ?_
   refine Z8q ?_
   dsimp only [List.take_succ_cons, List.take_zero, List.drop_succ_cons, List.drop_zero]
   refine Zd ?_
   refine Z6 ?_
   refine rg_q (wn_none rfl) (op_field fld_44_2 rfl) rfl rfl ?_
   refine rg_q (wn_none rfl) (op_ld 1 sc_37 rfl rfl rfl) rfl rfl ?_
   refine Z17 ?_
   refine Z8r ?_; intro ao5
   refine Zb5 ?_; intro ao6 ac6
   refine rg_tail2 ?_
   refine Z9b ?_
   refine Zl ?_
   refine Z8s ?_
   refine Z1 ?_
   refine Z1b ?_
   refine Zm ?_
   refine Z1p ?_
   refine oq (op_lda (L := rootC _) 8 ag_24 rfl rfl (rootC_take' _) (by simp [rootC_len])) ?_
   refine ol_pull12 ?_
   refine ol_pull12 ?_
   refine ol_pull16 ?_
   refine ol_pull16 ?_
   refine ol_pull16 ?_
   refine ol_pull16 ?_
   refine oi (os_call cb_27 rfl (fun w s => ROwnOfO_calls _ _ _ _ _ _ _ _ _ _ _ _ _ _ _ _  s (by assumption) (by assumption) (by first | assumption | omega))) ?_; rintro _ _ ⟨rfl, rfl⟩; rw [ofF_rt2 hw hi1]
   refine Z9o ?_; intro ao7
   refine ol_pull16 ?_
   refine Zc7 ?_; intro ao8 ac8
   refine Zw ?_
   refine Z35 ?_
   refine px_pull5 ?_
   refine px_pull5 ?_
   refine px_pull5 ?_
   refine px_pull5 ?_
   refine px_pull7 ?_
   refine px_pull7 ?_
   refine px_pull17 ?_
   refine px_pull7 ?_
   refine px_pull10 ?_
   refine px_pull13 ?_
   refine px_pull15 ?_
   refine px_pull12 ?_
   refine px_loop2 (i + 1, ao2, ac2, ao4, ac4, ao6, ac6, ao8, ac8) (by dsimp only; omega) (by (try dsimp only); omega) ⟨congrArg (fun q => Value.slice ao8 (List.length q) ac8) eO.symm, congrArg (Value.int .i64) (by simp), trivial⟩ ?_ (fun _ s => (by (try dsimp only); rw [eR, eS, eP, eO]; exact ((((((s.del 17).del 16).del 15).del 14).del 13).del 12)))
   exact Z2
  have hp4 := hb4
  (try simp only [bn] at hp4)
  have hup : Pa[i]'(by omega) = upR t.nodes a i := hPr i (by omega) (by omega)
  rw [hup]
  refine Za ?_
  refine cd_pull7 ?_
  refine Z7 ?_
  refine Z8q ?_
  dsimp only [List.take_succ_cons, List.take_zero, List.drop_succ_cons, List.drop_zero]
  refine Zd ?_
  refine Z6 ?_
  refine rg_q (wn_none rfl) (op_field fld_44_2 rfl) rfl rfl ?_
  refine rg_q (wn_none rfl) (op_ld 1 sc_37 rfl rfl rfl) rfl rfl ?_
  refine Z17 ?_
  refine Z8r ?_; intro ao9
  refine Zb5 ?_; intro ao10 ac10
  refine rg_tail2 ?_
  refine Z9b ?_
  refine Zl ?_
  refine Z8s ?_
  refine Z1 ?_
  refine Z1b ?_
  refine Zm ?_
  refine Z1p ?_
  refine oq (op_lda (L := rootC _) 8 ag_24 rfl rfl (rootC_take' _) (by simp [rootC_len])) ?_
  refine ol_pull12 ?_
  refine ol_pull12 ?_
  refine ol_pull16 ?_
  refine ol_pull16 ?_
  refine ol_pull16 ?_
  refine ol_pull16 ?_
  refine oi (os_call cb_27 rfl (fun w s => ROwnOfO_calls _ _ _ _ _ _ _ _ _ _ _ _ _ _ _ _  s (by assumption) (by assumption) (by first | assumption | omega))) ?_; rintro _ _ ⟨rfl, rfl⟩; rw [ofF_rt2 hw hi1]
  refine Z9o ?_; intro ao11
  refine ol_pull16 ?_
  refine Zc7 ?_; intro ao12 ac12
  refine Zw ?_
  refine Z35 ?_
  refine px_pull5 ?_
  refine px_pull5 ?_
  refine px_pull5 ?_
  refine px_pull5 ?_
  refine px_pull7 ?_
  refine px_pull7 ?_
  refine px_pull17 ?_
  refine px_pull7 ?_
  refine px_pull10 ?_
  refine px_pull13 ?_
  refine px_pull15 ?_
  refine px_pull12 ?_
  refine px_loop2 (i + 1, ao2, ac2, ao4, ac4, ao10, ac10, ao12, ac12) (by dsimp only; omega) (by (try dsimp only); omega) ⟨congrArg (fun q => Value.slice ao12 (List.length q) ac12) eO.symm, congrArg (Value.int .i64) (by simp), trivial⟩ ?_ (fun _ s => (by (try dsimp only); rw [eR, eS, eP, eO]; exact ((((((s.del 17).del 16).del 15).del 14).del 13).del 12)))
  exact Z2
 have hp2 := hb2
 (try simp only [bn] at hp2)
 have hie : i = t.nodes.length := by omega
 refine Z1e ?_
 refine Zg ?_
 refine Zm ?_
 refine Zm ?_
 refine Z5k ?_
 refine oq (op_build (L := [_, _, _]) (vs := [(0, .pointer _), (1, .slice _ _ _), (2, .int _ _)]) bB_47 rfl ⟨⟨rfl, rfl⟩, ⟨rfl, rfl⟩, ⟨rfl, rfl⟩, trivial⟩ rfl) ?_
 refine Z2f ?_; intro bx5
 refine Zc ?_
 refine Zk ?_
 refine px_pull12 ?_
 refine px_pull12 ?_
 refine px_pull12 ?_
 refine px_pull12 ?_
 refine px_pull12 ?_
 refine px_pull12 ?_
 refine px_pull11 ?_
 refine px_pull7 ?_
 refine px_pull11 ?_
 refine px_pull11 ?_
 refine px_pull11 ?_
 refine px_pull11 ?_
 rw [hie]
 exact px_ret2 rfl (v1 := .pointer _) (v2 := .bool _) (l' := RTreeObj _ (prT t a) :: RWObj _ _ (prO t.nodes a o) :: RTreeObj pr t :: RWObj pm pr o :: l) rfl rfl (fun _ s => by
  have s1 : Sat _ _ (RTreeObj _ (prT t a) :: _) := Sat.rtreeMk (prT_wf hw hla) (pr_ref hw a) rfl rfl rfl (s.del 12)
  have s2 : Sat _ _ (RWObj _ _ (prO t.nodes a o) :: _) := Sat.rwMk rfl rfl ((s1.pull 2).pull 2)
  have s3 := ((((((s2.pull 7).pull 7).pull 7).pull 7).pull 7).pull 7)
  have s4 := s3.rwtPack hw hR
  have s5 := ((s4.pull 3).pull 3).pull 1
  exact s5) ⟨_, _, rfl, rfl⟩
end Go.SL

set_option linter.unusedVariables false
set_option linter.unusedSimpArgs false
namespace Go.SL
open Go.Proofs

theorem TabNewOk_calls {w0 w : World} {l : List HProp} (n sl : Int) (hs : Sat w0 w l) (h : 1 ≤ n ∧ n ≤ 64 ∧ 1 ≤ sl ∧ sl ≤ 32) :
  Calls Try.prog 85 #[.int .i64 n, .int .i64 sl] w (Ret w0 fun v l' => ∃ p, v = .pointer (some ⟨p, 0, none⟩) ∧ l' = TabObj p (TabS.new n.toNat sl) :: l) :=
 (New_calls n sl hs).mono fun e w' ⟨v, l', he, hp, hs'⟩ => by
  rcases hp with ⟨_, _, hb⟩ | ⟨p, hv, _, hl⟩
  ·omega
  exact ⟨v, l', he, ⟨p, hv, hl⟩, hs'⟩
theorem RTabNewOk_calls {w0 w : World} {l : List HProp} (n sl : Int) (hs : Sat w0 w l) (h : 1 ≤ n ∧ n ≤ 64 ∧ 1 ≤ sl ∧ sl ≤ 32) :
  Calls Try.prog 90 #[.int .i64 n, .int .i64 sl] w (Ret w0 fun v l' => ∃ p, v = .tuple #[.pointer (some ⟨p, 0, none⟩), .bool true] ∧ l' = RTabObj p (TabS.new n.toNat sl) :: l) :=
 (RNew_calls n sl hs).mono fun e w' ⟨v, l', he, hp, hs'⟩ => by
  rcases hp with ⟨_, _, hb⟩ | ⟨p, hv, _, hl⟩
  ·omega
  exact ⟨v, l', he, ⟨p, hv, hl⟩, hs'⟩
theorem RTNewOk_calls {w0 w : World} {l : List HProp} (r : Root) (slot most : Int) (hs : Sat w0 w l) (h : 1 ≤ most ∧ most ≤ 256 ∧ 0 ≤ slot ∧ slot ≤ 1073741824) :
  Calls Try.prog 46 #[.agg (rootC r).toArray, .int .i64 slot, .int .i64 most] w (Ret w0 fun v l' => ∃ p, v = .tuple #[.pointer (some ⟨p, 0, none⟩), .bool true] ∧ l' = RTreeObj p (TreeS.new r slot most) :: l) :=
 (RTNew_calls r slot most hs).mono fun e w' ⟨v, l', he, hp, hs'⟩ => by
  rcases hp with ⟨_, _, hb⟩ | ⟨p, hv, _, hl⟩
  ·omega
  exact ⟨v, l', he, ⟨p, hv, hl⟩, hs'⟩

set_option maxRecDepth 100000 in
set_option maxHeartbeats 1000000 in
theorem BNewN_calls {w0 w : World} {l : List HProp} (ao : Option Addr) (c : Nat) (xs : List Val) (n1 n2 n3 n4 n5 n6 n7 n8 n9 n10 n11 : Int) (hs : Sat w0 w (l)) (hg : goodC ⟨⟨ao, xs.length, c⟩, n1, n2, n3, n4, n5, n6, n7, n8, n9, n10, n11⟩ xs = false) (hr : Rds w0 l encVal ao xs) (hxl : xs.length ≤ 1000000) :
  Calls Try.prog 62 #[.agg (cfgC ⟨⟨ao, xs.length, c⟩, n1, n2, n3, n4, n5, n6, n7, n8, n9, n10, n11⟩).toArray] w (Ret w0 fun v l' => v = .pointer none ∧ l' = l) := by
 refine calls_enter Try.func62 rfl rfl rfl hs ?_
 refine Zj ?_; intro bx1
 refine Zc ?_
 refine Z4c ?_
 refine Z4m ?_
 refine oi (os_call cb_83 rfl (fun w s => Good_calls _ _ _ _ _ _ _ _ _ _ _ _ _ _  s (hr.cons _) (by first | omega | (simp; done) | (simp; omega)))) ?_; rintro _ _ ⟨rfl, rfl⟩
 refine Z3e ?_
 refine Z1 ?_
 refine cd_cond rfl (fun hb1 => ?_) (fun hb1 => ?_)
 ·have hp1 := hb1
  (try simp only [bn] at hp1)
  refine Z31 ?_
  refine Z1s ?_
  refine Z13 ?_
  exact px_ret1 rfl (v := .pointer _) rfl (fun _ s => (s.del 0)) ⟨rfl, rfl⟩
 have hp1 := hb1
 (try simp only [bn] at hp1)
 exact absurd hb1 (by rw [hg]; simp)

set_option maxRecDepth 100000 in
set_option maxHeartbeats 1000000 in
theorem RBNewN_calls {w0 w : World} {l : List HProp} (ao : Option Addr) (c : Nat) (xs : List Val) (n1 n2 n3 n4 n5 n6 n7 n8 n9 n10 n11 : Int) (hs : Sat w0 w (l)) (hg : goodC ⟨⟨ao, xs.length, c⟩, n1, n2, n3, n4, n5, n6, n7, n8, n9, n10, n11⟩ xs = false) (hr : Rds w0 l encVal ao xs) (hxl : xs.length ≤ 1000000) (hq : ∀ y ∈ xs, I64 y.stake ∧ y.key.length ≤ maxLen) :
  Calls Try.prog 66 #[.agg (cfgC ⟨⟨ao, xs.length, c⟩, n1, n2, n3, n4, n5, n6, n7, n8, n9, n10, n11⟩).toArray] w (Ret w0 fun v l' => v = .tuple #[.pointer none, .bool false] ∧ l' = l) := by
 refine calls_enter Try.func66 rfl rfl rfl hs ?_
 refine Zj ?_; intro bx1
 refine Z4u ?_
 refine Z15 ?_
 refine Z4m ?_
 refine oi (os_call cb_89 rfl (fun w s => RGood_calls _ _ _ _ _ _ _ _ _ _ _ _ _ _  s (hr.cons _) (by first | omega | (simp; done) | (simp; omega)) (by assumption))) ?_; rintro _ _ ⟨rfl, rfl⟩
 refine Z3e ?_
 refine Z1 ?_
 refine cd_cond rfl (fun hb1 => ?_) (fun hb1 => ?_)
 ·have hp1 := hb1
  (try simp only [bn] at hp1)
  refine Z31 ?_
  refine Zv ?_
  exact px_ret2 rfl (v1 := .pointer _) (v2 := .bool _) rfl rfl (fun _ s => (s.del 0)) ⟨rfl, rfl⟩
 have hp1 := hb1
 (try simp only [bn] at hp1)
 exact absurd hb1 (by rw [hg]; simp)

set_option maxRecDepth 100000 in
set_option maxHeartbeats 1000000 in
theorem BNewS_calls {w0 w : World} {l : List HProp} (ao : Option Addr) (c : Nat) (xs : List Val) (n1 n2 n3 n4 n5 n6 n7 n8 n9 n10 n11 : Int) (hs : Sat w0 w (l)) (hg : goodC ⟨⟨ao, xs.length, c⟩, n1, n2, n3, n4, n5, n6, n7, n8, n9, n10, n11⟩ xs = true) (hr : Rds w0 l encVal ao xs) :
  Calls Try.prog 62 #[.agg (cfgC ⟨⟨ao, xs.length, c⟩, n1, n2, n3, n4, n5, n6, n7, n8, n9, n10, n11⟩).toArray] w (Ret w0 fun v l' => ∃ pb pt pw pv, v = .pointer (some ⟨pb, 0, none⟩) ∧ l' = Blk pb (.cells #[.slice ao xs.length c, .int .i64 n1, .int .i64 n2, .int .i64 n3, .int .i64 n4, .int .i64 n5, .int .i64 n6, .int .i64 n7, .int .i64 n8, .int .i64 n9, .int .i64 n10, .int .i64 n11, .pointer (some ⟨pt, 0, none⟩), .pointer (some ⟨pw, 0, none⟩), .pointer (some ⟨pv, 0, none⟩)] 131 (0, 0)) :: TreeObj pt (TreeS.new (shaM ([116, 111, 108, 108, 101, 114] ++ bytesC ⟨⟨ao, xs.length, c⟩, n1, n2, n3, n4, n5, n6, n7, n8, n9, n10, n11⟩ xs)) 0 n3) :: WObj pw pt (TreeS.new (shaM ([116, 111, 108, 108, 101, 114] ++ bytesC ⟨⟨ao, xs.length, c⟩, n1, n2, n3, n4, n5, n6, n7, n8, n9, n10, n11⟩ xs)) 0 n3).nodes (ownE xs (effT (TabS.new xs.length n1)) (TreeS.new (shaM ([116, 111, 108, 108, 101, 114] ++ bytesC ⟨⟨ao, xs.length, c⟩, n1, n2, n3, n4, n5, n6, n7, n8, n9, n10, n11⟩ xs)) 0 n3).nodes) :: TabObj pv (TabS.new xs.length n1) :: l) := by
 have hbd := goodC_bd hg
 (try dsimp only at hbd)
 have hxl := hbd.2.2.1.2
 have hk := hbd.2.2.2
 refine calls_enter Try.func62 rfl rfl rfl hs ?_
 refine Zj ?_; intro bx1
 refine Zc ?_
 refine Z4c ?_
 refine Z4m ?_
 refine oi (os_call cb_83 rfl (fun w s => Good_calls _ _ _ _ _ _ _ _ _ _ _ _ _ _  s (hr.cons _) (by omega))) ?_; rintro _ _ ⟨rfl, rfl⟩
 refine Z3e ?_
 refine Z1 ?_
 refine cd_cond rfl (fun hb1 => ?_) (fun hb1 => ?_)
 ·have hp1 := hb1
  (try simp only [bn] at hp1)
  exact absurd hb1 (by rw [hg]; simp)
 have hp1 := hb1
 (try simp only [bn] at hp1)
 refine Zn ?_
 refine cd_draw (M := []) mx [1, 4] (by kernel_rfl) ?_
 refine rg_q (wn_none rfl) (op_lda (L := cfgC _) 0 ag_65 rfl rfl (cfgC_ta _) (by simp [cfgC_len])) rfl rfl ?_
 refine rg_i (wn_none rfl) (os_call cb_84 rfl (fun w s => GRoot_calls _ _ _ _ _ _ _ _ _ _ _ _ _ _  s (hr.cons _) (by omega) hk)) rfl rfl ?_; rintro _ _ ⟨rfl, rfl⟩; refine ⟨[], rfl, ?_⟩
 refine Zd6 ?_
 refine rg_i (wn_none rfl) (os_call cb_45 rfl (fun w s => TNewOk_calls _ _ _  s (by omega))) rfl rfl ?_; rintro _ _ ⟨np3, rfl, rfl⟩; refine ⟨[_], rfl, ?_⟩
 refine Z4z ?_
 refine Z68 ?_
 refine Z8h ?_
 refine Z56 ?_
 refine Z3t ?_
 refine Z7 ?_
 refine cd_drawt (M := []) mx [3, 9] 11 (by kernel_rfl) rfl rfl ?_
 dsimp only [List.take_succ_cons, List.take_zero, List.drop_succ_cons, List.drop_zero]
 refine rg_q (wn_none rfl) (op_lda (L := cfgC _) 1 ag_65 rfl rfl (cfgC_ta _) (by simp [cfgC_len])) rfl rfl ?_
 refine Zd ?_
 refine Zd ?_
 refine rg_i (wn_none rfl) (os_call cb_50 rfl (fun w s => WNew_calls _ _  s )) rfl rfl ?_; rintro _ _ ⟨pw4, rfl, rfl⟩; refine ⟨[_], rfl, ?_⟩
 refine rg_q (wn_none rfl) (op_field fld_65_0 rfl) rfl rfl ?_
 refine rg_q (wn_none rfl) (op_ld 1 sc_63 rfl rfl (show (cfgC _).toArray[0]? = some (.slice ao xs.length c) from cfgC_a0 _)) rfl rfl ?_
 refine rg_q (wn_none rfl) (op_len_slice Try.underlying63 rfl) rfl rfl ?_
 refine rg_q (wn_none rfl) (op_field fld_65_1 rfl) rfl rfl ?_
 refine rg_q (wn_none rfl) (op_ld 1 sc_3 rfl rfl (show (cfgC _).toArray[1]? = some (.int .i64 n1) from cfgC_a1 _)) rfl rfl ?_
 refine rg_i (wn_none rfl) (os_call cb_85 rfl (fun w s => TabNewOk_calls _ _  s (by omega))) rfl rfl ?_; rintro _ _ ⟨nv5, rfl, rfl⟩; rw [Int.toNat_natCast]; refine ⟨[_, _], rfl, ?_⟩
 refine rg_q (wn_none rfl) (op_build (L := [.slice ao xs.length c, .int .i64 n1, .int .i64 n2, .int .i64 n3, .int .i64 n4, .int .i64 n5, .int .i64 n6, .int .i64 n7, .int .i64 n8, .int .i64 n9, .int .i64 n10, .int .i64 n11, .pointer _, .pointer _, .pointer _]) (vs := [(0, .agg (cfgC ⟨⟨ao, xs.length, c⟩, n1, n2, n3, n4, n5, n6, n7, n8, n9, n10, n11⟩).toArray), (1, .pointer _), (2, .pointer _), (3, .pointer _)]) bB_131 rfl ⟨⟨rfl, rfl⟩, ⟨rfl, rfl⟩, ⟨rfl, rfl⟩, ⟨rfl, rfl⟩, trivial⟩ rfl) rfl rfl ?_
 refine rg_tail2 ?_
 refine Z2f ?_; intro bx2
 refine Zc ?_
 refine Z1s ?_
 exact px_ret1 rfl (v := .pointer _) (l' := _ :: TreeObj _ (TreeS.new (shaM ([116, 111, 108, 108, 101, 114] ++ bytesC ⟨⟨ao, xs.length, c⟩, n1, n2, n3, n4, n5, n6, n7, n8, n9, n10, n11⟩ xs)) 0 n3) :: WObj _ _ (TreeS.new (shaM ([116, 111, 108, 108, 101, 114] ++ bytesC ⟨⟨ao, xs.length, c⟩, n1, n2, n3, n4, n5, n6, n7, n8, n9, n10, n11⟩ xs)) 0 n3).nodes (ownE xs (effT (TabS.new xs.length n1)) (TreeS.new (shaM ([116, 111, 108, 108, 101, 114] ++ bytesC ⟨⟨ao, xs.length, c⟩, n1, n2, n3, n4, n5, n6, n7, n8, n9, n10, n11⟩ xs)) 0 n3).nodes) :: TabObj _ (TabS.new xs.length n1) :: l) rfl (fun _ s => by rw [newB_own]; exact (((((s.del 4).pull 1).pull 2).pull 3).pull 3)) ⟨_, _, _, _, rfl, rfl⟩

set_option maxRecDepth 100000 in
set_option maxHeartbeats 1000000 in
theorem RBNewS_calls {w0 w : World} {l : List HProp} (ao : Option Addr) (c : Nat) (xs : List Val) (n1 n2 n3 n4 n5 n6 n7 n8 n9 n10 n11 : Int) (hs : Sat w0 w (l)) (hg : goodC ⟨⟨ao, xs.length, c⟩, n1, n2, n3, n4, n5, n6, n7, n8, n9, n10, n11⟩ xs = true) (hr : Rds w0 l encVal ao xs) (hq : ∀ y ∈ xs, I64 y.stake ∧ y.key.length ≤ maxLen) :
  Calls Try.prog 66 #[.agg (cfgC ⟨⟨ao, xs.length, c⟩, n1, n2, n3, n4, n5, n6, n7, n8, n9, n10, n11⟩).toArray] w (Ret w0 fun v l' => ∃ pm pr pq, v = .tuple #[.pointer (some ⟨pm, 0, none⟩), .bool true] ∧ l' = Blk pm (.cells #[.slice ao xs.length c, .int .i64 n1, .int .i64 n2, .int .i64 n3, .int .i64 n4, .int .i64 n5, .int .i64 n6, .int .i64 n7, .int .i64 n8, .int .i64 n9, .int .i64 n10, .int .i64 n11, .pointer (some ⟨pr, 0, none⟩), .pointer (some ⟨pq, 0, none⟩)] 127 (0, 0)) :: RTreeObj pr (TreeS.new (shaM ([116, 111, 108, 108, 101, 114] ++ bytesC ⟨⟨ao, xs.length, c⟩, n1, n2, n3, n4, n5, n6, n7, n8, n9, n10, n11⟩ xs)) 0 n3) :: RTabObj pq (TabS.new xs.length n1) :: l) := by
 have hbd := goodC_bd hg
 (try dsimp only at hbd)
 have hxl := hbd.2.2.1.2
 have hk := hbd.2.2.2
 refine calls_enter Try.func66 rfl rfl rfl hs ?_
 refine Zj ?_; intro bx1
 refine Z4u ?_
 refine Z15 ?_
 refine Z4m ?_
 refine oi (os_call cb_89 rfl (fun w s => RGood_calls _ _ _ _ _ _ _ _ _ _ _ _ _ _  s (hr.cons _) (by omega) (by assumption))) ?_; rintro _ _ ⟨rfl, rfl⟩
 refine Z3e ?_
 refine Z1 ?_
 refine cd_cond rfl (fun hb1 => ?_) (fun hb1 => ?_)
 ·have hp1 := hb1
  (try simp only [bn] at hp1)
  exact absurd hb1 (by rw [hg]; simp)
 have hp1 := hb1
 (try simp only [bn] at hp1)
 refine Zn ?_
 refine cd_draw (M := []) mx [1, 4] (by kernel_rfl) ?_
 refine rg_q (wn_none rfl) (op_lda (L := cfgC _) 0 ag_65 rfl rfl (cfgC_ta _) (by simp [cfgC_len])) rfl rfl ?_
 refine rg_i (wn_none rfl) (os_call cb_63 rfl (fun w s => RRoot_calls _ _ _ _ _ _ _ _ _ _ _ _ _ _  s (hr.cons _) (by omega) hk)) rfl rfl ?_; rintro _ _ ⟨rfl, rfl⟩; refine ⟨[], rfl, ?_⟩
 refine Zd6 ?_
 refine rg_i (wn_none rfl) (os_call cb_46 rfl (fun w s => RTNewOk_calls _ _ _  s (by omega))) rfl rfl ?_; rintro _ _ ⟨nr3, rfl, rfl⟩; refine ⟨[_], rfl, ?_⟩
 refine Z4z ?_
 refine Z68 ?_
 refine Z6d ?_
 refine Z56 ?_
 refine Z2x ?_
 refine rg_nil_then1 ?_
 refine Z0 ?_
 refine Z44 ?_
 refine oq (op_ld 1 sc_63 rfl rfl (show (cfgC _).toArray[0]? = some (.slice ao xs.length c) from cfgC_a0 _)) ?_
 refine Z4l ?_
 refine oq (op_field fld_65_1 rfl) ?_
 refine oq (op_ld 1 sc_3 rfl rfl (show (cfgC _).toArray[1]? = some (.int .i64 n1) from cfgC_a1 _)) ?_
 refine oi (os_call cb_90 rfl (fun w s => RTabNewOk_calls _ _  s (by omega))) ?_; rintro _ _ ⟨nq4, rfl, rfl⟩; rw [Int.toNat_natCast]
 refine Z38 ?_
 refine Z5l ?_
 refine Z52 ?_
 refine Z4u ?_
 refine Z0 ?_
 refine oq (op_lda (L := cfgC _) 2 ag_65 rfl rfl (cfgC_ta _) (by simp [cfgC_len])) ?_
 refine Z1p ?_
 refine Z1p ?_
 refine oq (op_build (L := [.slice ao xs.length c, .int .i64 n1, .int .i64 n2, .int .i64 n3, .int .i64 n4, .int .i64 n5, .int .i64 n6, .int .i64 n7, .int .i64 n8, .int .i64 n9, .int .i64 n10, .int .i64 n11, .pointer _, .pointer _]) (vs := [(0, .agg (cfgC ⟨⟨ao, xs.length, c⟩, n1, n2, n3, n4, n5, n6, n7, n8, n9, n10, n11⟩).toArray), (1, .pointer _), (2, .pointer _)]) bB_127 rfl ⟨⟨rfl, rfl⟩, ⟨rfl, rfl⟩, ⟨rfl, rfl⟩, trivial⟩ rfl) ?_
 refine Z2f ?_; intro bx2
 refine Zc ?_
 refine Zk ?_
 exact px_ret2 rfl (v1 := .pointer _) (v2 := .bool _) (l' := _ :: RTreeObj _ (TreeS.new (shaM ([116, 111, 108, 108, 101, 114] ++ bytesC ⟨⟨ao, xs.length, c⟩, n1, n2, n3, n4, n5, n6, n7, n8, n9, n10, n11⟩ xs)) 0 n3) :: RTabObj _ (TabS.new xs.length n1) :: l) rfl rfl (fun _ s => ((((s.del 3).pull 1).pull 2).pull 2)) ⟨_, _, _, rfl, rfl⟩

set_option maxRecDepth 100000 in
set_option maxHeartbeats 1000000 in
theorem RBTake_calls {w0 w : World} {l : List HProp} (pm pr pq : Nat) (ao : Option Addr) (c : Nat) (xs : List Val) (n1 n2 n3 n4 n5 n6 n7 n8 n9 n10 n11 : Int) (t : TreeS) (tb : TabS) (u : Vote) (hs : Sat w0 w ((Blk pm (.cells #[.slice ao xs.length c, .int .i64 n1, .int .i64 n2, .int .i64 n3, .int .i64 n4, .int .i64 n5, .int .i64 n6, .int .i64 n7, .int .i64 n8, .int .i64 n9, .int .i64 n10, .int .i64 n11, .pointer (some ⟨pr, 0, none⟩), .pointer (some ⟨pq, 0, none⟩)] 127 (0, 0))) :: (RTreeObj pr t) :: (RTabObj pq tb) :: l))  :
  Calls Try.prog 68 #[.pointer (some ⟨pm, 0, none⟩), .agg (voteC u).toArray] w (Ret w0 fun v l' => v = .int .i64 (BookS.take ⟨t, tb⟩ u).1 ∧ l' = Blk pm (.cells #[.slice ao xs.length c, .int .i64 n1, .int .i64 n2, .int .i64 n3, .int .i64 n4, .int .i64 n5, .int .i64 n6, .int .i64 n7, .int .i64 n8, .int .i64 n9, .int .i64 n10, .int .i64 n11, .pointer (some ⟨pr, 0, none⟩), .pointer (some ⟨pq, 0, none⟩)] 127 (0, 0)) :: RTreeObj pr t :: RTabObj pq (BookS.take ⟨t, tb⟩ u).2 :: l) := by
 refine calls_enter Try.func68 rfl rfl rfl hs ?_
 refine Zj ?_; intro bx1
 refine Z8 ?_
 rcases hix : idxOf t.nodes u.target with _ | j
 ·
  have hna : t.node (t.place u.target) = none := by unfold TreeS.place; rw [hix]; rfl
  have hpj : t.place u.target = -1 := by unfold TreeS.place; rw [hix]
  refine Z7 ?_
  refine cd_draw (M := []) mx [6] (by kernel_rfl) ?_
  refine Z6 ?_
  refine Za8 ?_
  refine Z8a ?_
  refine Z9u ?_
  refine rg_q (wn_none rfl) (op_lda (L := rootC _) 0 ag_24 rfl rfl (voteC_af2 _) (by simp [voteC_len])) rfl rfl ?_
  refine rg_i (wn_none rfl) (os_back (os_pull2 (os_call cb_49 rfl (fun w s => RPlace_calls _ _ _  s ))) (fun _ s => ((((s.pull 3).pull 1).pull 3).pull 3))) rfl rfl ?_; rintro _ _ ⟨rfl, rfl⟩; rw [hpj]; refine ⟨[], rfl, ?_⟩
  refine Z3q ?_
  refine Z7 ?_
  refine cd_pull2 ?_
  refine cd_rtreeOpen ?_; intro a1 c1 a2 c2 a3 c3 R Sl Pa hw hR
  have hSl : Sl.length = t.nodes.length := by rw [hR.s, List.length_map]
  have hSr : ∀ q (h : q < Sl.length), Sl[q] = slA t.nodes q := fun q h => by simp only [hR.s, List.getElem_map]; exact (slA_get (by omega)).symm
  refine Z1u ?_
  refine Ze ?_
  refine Z53 ?_
  refine Z4k ?_
  refine rg_split 15 rfl (fun hb1 => ?_) (fun hb1 => ?_)
  ·have hp1 := hb1
   (try simp only [bn] at hp1)
   have hunk := unk_none hix
   refine Z3n ?_
   refine Z3n ?_
   refine Z3n ?_
   refine Z3n ?_
   refine Z3n ?_
   refine Z3n ?_
   refine Z9i ?_
   refine rg_q (wn_none rfl) (op_pick_t (v := .bool _) rfl hb1 rfl) rfl rfl ?_
   refine Z1a ?_
   refine Z5e ?_
   refine Z1y ?_
   rw [btake_unk hunk]; (try dsimp only)
   exact Zc8
  have hp1 := hb1
  (try simp only [bn] at hp1)
  exact absurd hb1 (by decide)
 have hjl := idxOf_lt hix
 have hpj : t.place u.target = (j : Int) := by unfold TreeS.place; rw [hix]
 have hna : t.node (t.place u.target) = t.nodes[j]? := by rw [hpj, TreeS.node_at]
 refine Z7 ?_
 refine cd_draw (M := []) mx [6] (by kernel_rfl) ?_
 refine Z6 ?_
 refine Za8 ?_
 refine Z8a ?_
 refine Z9u ?_
 refine rg_q (wn_none rfl) (op_lda (L := rootC _) 0 ag_24 rfl rfl (voteC_af2 _) (by simp [voteC_len])) rfl rfl ?_
 refine rg_i (wn_none rfl) (os_back (os_pull2 (os_call cb_49 rfl (fun w s => RPlace_calls _ _ _  s ))) (fun _ s => ((((s.pull 3).pull 1).pull 3).pull 3))) rfl rfl ?_; rintro _ _ ⟨rfl, rfl⟩; rw [hpj]; refine ⟨[], rfl, ?_⟩
 refine Z3q ?_
 refine Z7 ?_
 refine cd_pull2 ?_
 refine cd_rtreeOpen ?_; intro a1 c1 a2 c2 a3 c3 R Sl Pa hw hR
 have hSl : Sl.length = t.nodes.length := by rw [hR.s, List.length_map]
 have hSr : ∀ q (h : q < Sl.length), Sl[q] = slA t.nodes q := fun q h => by simp only [hR.s, List.getElem_map]; exact (slA_get (by omega)).symm
 refine Z1u ?_
 refine Ze ?_
 refine Z53 ?_
 refine Z4k ?_
 refine rg_split 15 rfl (fun hb2 => ?_) (fun hb2 => ?_)
 ·have hp2 := hb2
  (try simp only [bn] at hp2)
  exact absurd (of_decide_eq_true hb2) (by omega)
 have hp2 := hb2
 (try simp only [bn] at hp2)
 refine rg_q (wn_some rfl rfl rfl hb2 rfl) (op_move (v := .pointer _) rfl) rfl rfl ?_
 refine rg_q (wn_some rfl rfl rfl hb2 rfl) (op_nilck rfl) rfl rfl ?_
 refine rg_q (wn_some rfl rfl rfl hb2 rfl) (op_field fld_127_1 rfl) rfl rfl ?_
 refine rg_q (wn_some rfl rfl rfl hb2 rfl) (op_ld 5 sc_45 rfl rfl rfl) rfl rfl ?_
 refine rg_q (wn_some rfl rfl rfl hb2 rfl) (op_nilck rfl) rfl rfl ?_
 refine rg_q (wn_some rfl rfl rfl hb2 rfl) (op_field fld_44_1 rfl) rfl rfl ?_
 refine rg_q (wn_some rfl rfl rfl hb2 rfl) (op_ld 0 sc_42 rfl rfl rfl) rfl rfl ?_
 refine Za0 ?_
 refine rg_q (wn_some rfl rfl rfl hb2 rfl) (op_index j sB_42 rfl rfl rfl (rds_row 2 rfl rfl) rfl (by omega)) rfl rfl ?_
 refine rg_q (wn_some rfl rfl rfl hb2 rfl) (op_ldw sc_3 (rds_row 2 rfl rfl) rfl (by omega) rfl) rfl rfl ?_
 refine rg_q (wn_some rfl rfl rfl hb2 rfl) (op_field fld_84_1 rfl) rfl rfl ?_
 refine rg_q (wn_some rfl rfl rfl hb2 rfl) (op_ld 4 sc_3 rfl rfl (voteC_a1 _)) rfl rfl ?_
 refine rg_q (wn_some rfl rfl rfl hb2 rfl) (op_gt rfl rfl) rfl rfl ?_
 refine rg_q (wn_none rfl) (op_pick_f (v := .bool _) rfl hb2 rfl) rfl rfl ?_
 refine Z1a ?_
 refine cd_cond rfl (fun hb3 => ?_) (fun hb3 => ?_)
 ·have hp3 := hb3
  (try simp only [bn] at hp3)
  have hunk : unkB t u = true := by rw [unk_some hix]; exact decide_eq_true (by rw [← hSr j (by omega)]; omega)
  refine Z1y ?_
  rw [btake_unk hunk]; (try dsimp only)
  exact Zc8
 have hp3 := hb3
 (try simp only [bn] at hp3)
 have hbt := btake_yes (tb := tb) (show unkB t u = false by rw [unk_some hix]; exact decide_eq_false (by rw [← hSr j (by omega)]; omega))
 refine Za ?_
 refine cd_imp (fun _ s => Sat.rtreeMk hw hR rfl rfl rfl s) ?_
 refine cd_pull3 ?_
 refine Z7 ?_
 refine Z55 ?_
 refine Z6 ?_
 refine rg_q (wn_none rfl) (op_field fld_127_2 rfl) rfl rfl ?_
 refine rg_q (wn_none rfl) (op_ld 2 sc_125 rfl rfl rfl) rfl rfl ?_
 refine rg_q (wn_none rfl) (op_lda (L := voteC _) 1 ag_84 rfl rfl (voteC_ta _) (by simp [voteC_len])) rfl rfl ?_
 refine rg_i (wn_none rfl) (os_call cb_91 rfl (fun w s => RTake_calls _ _ _  s )) rfl rfl ?_; rintro _ _ ⟨rfl, rfl⟩; refine ⟨[_], rfl, ?_⟩
 refine Z3t ?_
 refine cd_ret ?_
 rw [hbt]
 exact px_ret1 rfl (v := .int _ _) rfl (fun _ s => (((s.del 2).pull 1).pull 2)) ⟨rfl, rfl⟩

set_option maxRecDepth 100000 in
set_option maxHeartbeats 1000000 in
theorem RBKeepN_calls {w0 w : World} {l : List HProp} (pm pr pq : Nat) (ao : Option Addr) (c : Nat) (xs : List Val) (n1 n2 n3 n4 n5 n6 n7 n8 n9 n10 n11 : Int) (t : TreeS) (r : Root) (hs : Sat w0 w ((Blk pm (.cells #[.slice ao xs.length c, .int .i64 n1, .int .i64 n2, .int .i64 n3, .int .i64 n4, .int .i64 n5, .int .i64 n6, .int .i64 n7, .int .i64 n8, .int .i64 n9, .int .i64 n10, .int .i64 n11, .pointer (some ⟨pr, 0, none⟩), .pointer (some ⟨pq, 0, none⟩)] 127 (0, 0))) :: (RTreeObj pr t) :: l)) (hi : idxOf t.nodes r = none) :
  Calls Try.prog 69 #[.pointer (some ⟨pm, 0, none⟩), .agg (rootC r).toArray] w (Ret w0 fun v l' => v = .int .i64 7 ∧ l' = Blk pm (.cells #[.slice ao xs.length c, .int .i64 n1, .int .i64 n2, .int .i64 n3, .int .i64 n4, .int .i64 n5, .int .i64 n6, .int .i64 n7, .int .i64 n8, .int .i64 n9, .int .i64 n10, .int .i64 n11, .pointer (some ⟨pr, 0, none⟩), .pointer (some ⟨pq, 0, none⟩)] 127 (0, 0)) :: RTreeObj pr t :: l) := by
 refine calls_enter Try.func69 rfl rfl rfl hs ?_
 refine Zj ?_; intro bx1
 refine Z8 ?_
 refine cd_pull2 ?_
 refine Z7 ?_
 refine cd_draw (M := [_]) mx [4, 6] (by kernel_rfl) ?_
 refine Z6 ?_
 refine Za8 ?_
 refine Z8a ?_
 refine rg_i (wn_none rfl) (os_call cb_51 rfl (fun w s => RWNew_calls _ _  s )) rfl rfl ?_; rintro _ _ ⟨pm1, rfl, rfl⟩; refine ⟨[_, _], rfl, ?_⟩
 refine Z17 ?_
 refine rg_i (wn_none rfl) (os_pull1 (os_call cb_18 rfl (fun w s => RPAllN_calls _ _ _ _ _  s (by assumption)))) rfl rfl ?_; rintro _ _ ⟨rfl, rfl⟩; refine ⟨[_, _], rfl, ?_⟩
 refine Z4z ?_
 refine Z68 ?_
 refine Z6d ?_
 refine Z56 ?_
 refine Z2x ?_
 refine rg_nil_then2 ?_
 refine Z3v ?_
 refine Z3w ?_
 exact px_ret1 rfl (v := .int _ _) rfl (fun _ s => (((s.del 2).del 1).pull 1)) ⟨rfl, rfl⟩

set_option maxRecDepth 100000 in
set_option maxHeartbeats 1000000 in
theorem RBKeepS_calls {w0 w : World} {l : List HProp} (pm pr pq : Nat) (ao : Option Addr) (c : Nat) (xs : List Val) (n1 n2 n3 n4 n5 n6 n7 n8 n9 n10 n11 : Int) (t : TreeS) (r : Root) (a : Nat) (hs : Sat w0 w ((Blk pm (.cells #[.slice ao xs.length c, .int .i64 n1, .int .i64 n2, .int .i64 n3, .int .i64 n4, .int .i64 n5, .int .i64 n6, .int .i64 n7, .int .i64 n8, .int .i64 n9, .int .i64 n10, .int .i64 n11, .pointer (some ⟨pr, 0, none⟩), .pointer (some ⟨pq, 0, none⟩)] 127 (0, 0))) :: (RTreeObj pr t) :: l)) (hi : idxOf t.nodes r = some a) :
  Calls Try.prog 69 #[.pointer (some ⟨pm, 0, none⟩), .agg (rootC r).toArray] w (Ret w0 fun v l' => ∃ qr, v = .int .i64 0 ∧ l' = Blk pm (.cells #[.slice ao xs.length c, .int .i64 n1, .int .i64 n2, .int .i64 n3, .int .i64 n4, .int .i64 n5, .int .i64 n6, .int .i64 n7, .int .i64 n8, .int .i64 n9, .int .i64 n10, .int .i64 n11, .pointer (some ⟨qr, 0, none⟩), .pointer (some ⟨pq, 0, none⟩)] 127 (0, 0)) :: RTreeObj qr (prT t a) :: l) := by
 refine calls_enter Try.func69 rfl rfl rfl hs ?_
 refine Zj ?_; intro bx1
 refine Z8 ?_
 refine cd_pull2 ?_
 refine Z7 ?_
 refine cd_draw (M := [_]) mx [4, 6] (by kernel_rfl) ?_
 refine Z6 ?_
 refine Za8 ?_
 refine Z8a ?_
 refine rg_i (wn_none rfl) (os_call cb_51 rfl (fun w s => RWNew_calls _ _  s )) rfl rfl ?_; rintro _ _ ⟨pm1, rfl, rfl⟩; refine ⟨[_, _], rfl, ?_⟩
 refine Z17 ?_
 refine rg_i (wn_none rfl) (os_pull1 (os_call cb_18 rfl (fun w s => RPAllS_calls _ _ _ _ _ _  s hi (Nat.le_of_eq (growO_len (Nat.zero_le _)))))) rfl rfl ?_; rintro _ _ ⟨qm2, qr2, rfl, rfl⟩; refine ⟨[_, _, _, _], rfl, ?_⟩
 refine Z4z ?_
 refine Z68 ?_
 refine Z6d ?_
 refine Z56 ?_
 refine Z2x ?_
 refine rg_nil_then4 ?_
 refine Z3v ?_
 refine Z2c ?_
 refine cd_pull1 ?_
 refine cd_rwOpen ?_; intro a4 c4
 refine Z3i ?_
 refine Zr ?_
 refine oq (op_field fld_47_0 rfl) ?_
 refine oq (op_ld 0 sc_45 rfl rfl rfl) ?_
 refine Zr ?_
 refine oq (op_field fld_127_1 rfl) ?_
 refine Z25 ?_
 refine oN (os_store (v := .pointer _) sc_45 rfl rfl rfl rfl (Free.zero _) rfl) ?_; rintro _ _ ⟨rfl, rfl⟩
 refine Z1 ?_
 refine Z1c ?_
 exact px_ret1 rfl (v := .int _ _) rfl (fun _ s => (((((s.del 6).del 5).del 4).del 2).del 1)) ⟨_, rfl, rfl⟩

set_option maxRecDepth 100000 in
set_option maxHeartbeats 1000000 in
theorem bname_calls {w0 w : World} {l : List HProp} (ao : Option Addr) (c : Nat) (xs : List Val) (n1 n2 n3 n4 n5 n6 n7 n8 n9 n10 n11 : Int) (k : Int) (hs : Sat w0 w (l)) (hr : Rds w0 l encVal ao xs) (hxl : xs.length ≤ 64) (hk : ∀ y ∈ xs, y.key.length ≤ 32) :
  Calls Try.prog 67 #[.agg (cfgC ⟨⟨ao, xs.length, c⟩, n1, n2, n3, n4, n5, n6, n7, n8, n9, n10, n11⟩).toArray, .int .i64 k] w (Ret w0 fun v l' => v = .agg (rootC (bName (shaM ([116, 111, 108, 108, 101, 114] ++ bytesC ⟨⟨ao, xs.length, c⟩, n1, n2, n3, n4, n5, n6, n7, n8, n9, n10, n11⟩ xs)) k)).toArray ∧ l' = l) := by
 refine calls_enter Try.func67 rfl rfl rfl hs ?_
 refine Zj ?_; intro bx1
 refine Z1w ?_; intro bx2
 refine Z1 ?_
 refine Z5b ?_
 refine cd_cond rfl (fun hb1 => ?_) (fun hb1 => ?_)
 ·have hp1 := hb1
  (try simp only [bn] at hp1)
  refine Z0 ?_
  refine Za4 ?_
  refine oi (os_call cb_63 rfl (fun w s => RRoot_calls _ _ _ _ _ _ _ _ _ _ _ _ _ _  s ((hr.cons _).cons _) (by omega) (by assumption))) ?_; rintro _ _ ⟨rfl, rfl⟩
  refine Z4s ?_
  refine Z13 ?_
  exact px_rv1 rfl (rv_cella 0 ag_24 rfl rfl (rootC_take' _) (by simp [rootC_len])) (fun _ s => ((s.del 1).del 0)) ⟨by unfold bName; rw [if_pos (by omega)], rfl⟩
 have hp1 := hb1
 (try simp only [bn] at hp1)
 refine Za ?_
 refine Z18 ?_
 refine oi (os_call cb_17 rfl (fun w s => Name_calls _  s )) ?_; rintro _ _ ⟨rfl, rfl⟩
 refine Z4s ?_
 exact px_rv1 rfl (rv_cella 0 ag_24 rfl rfl (rootC_take' _) (by simp [rootC_len])) (fun _ s => ((s.del 1).del 0)) ⟨by unfold bName; rw [if_neg (by omega)], rfl⟩
end Go.SL

set_option linter.unusedVariables false
set_option linter.unusedSimpArgs false
namespace Go.SL
section
variable {vs : List Val} {E : Nat → Option Root} {ns : List Node} {g : Root} {b : BookS} {a : VAct}
theorem stepB_0 (h : a.kind = 0) : stepB g b a = { b with t := (b.t.add (bName g a.root) (bName g a.parent) a.slot).2 } := if_pos h
theorem stepB_1 (h : a.kind = 1) : stepB g b a = { b with tb := (b.take ⟨a.who, a.slot, bName g a.root⟩).2 } := by unfold stepB; rw [if_neg (by omega), if_pos h]
theorem stepB_2 (h : a.kind = 2) : stepB g b a = { b with t := (keepT b.t (bName g a.root)).2 } := by unfold stepB; rw [if_neg (by omega), if_neg (by omega), if_pos h]
theorem stepB_3 (h0 : a.kind ≠ 0) (h1 : a.kind ≠ 1) (h2 : a.kind ≠ 2) : stepB g b a = { b with tb := b.tb.forget a.slot } := by unfold stepB; rw [if_neg h0, if_neg h1, if_neg h2]
theorem keepT_no {t : TreeS} {r : Root} (h : idxOf t.nodes r = none) : keepT t r = (7, t) := by unfold keepT; rw [h]
theorem keepT_yes {t : TreeS} {r : Root} {x : Nat} (h : idxOf t.nodes r = some x) : keepT t r = (0, prT t x) := by unfold keepT; rw [h]
def ownK (vs : List Val) (E : Nat → Option Root) (ns : List Node) (k : Nat) : List Int := tab ns.length fun i => sg (shareE vs E (rtA ns i)) k
end
def alQ : Cfg := ⟨⟨none, 1, 1⟩, 4, 1, 9, 1, 1, 1, 1, 1, 1, 1, 1⟩
def alX : List Val := [⟨5, [107]⟩]
def alF : Root := shaM ([116, 111, 108, 108, 101, 114] ++ bytesC alQ alX)
def alB0 : BookS := ⟨TreeS.new alF 0 9, TabS.new alX.length 4⟩
def alB1 : BookS := ⟨(alB0.t.add (nameR 1) alF 2).2, alB0.tb⟩
def alB2 : BookS := ⟨alB1.t, (alB1.take ⟨0, 2, nameR 1⟩).2⟩
theorem alB_0 (ao : Option Addr) (m k : Nat) : shaM ([116, 111, 108, 108, 101, 114] ++ bytesC ⟨⟨ao, m, k⟩, 4, 1, 9, 1, 1, 1, 1, 1, 1, 1, 1⟩ alX) = alF := rfl
theorem alB_g (ao : Option Addr) (m k : Nat) : goodC ⟨⟨ao, m, k⟩, 4, 1, 9, 1, 1, 1, 1, 1, 1, 1, 1⟩ alX = true := by simp [goodC, numsC, inR, totF, valOK, alX]
theorem alB_1 : headW alB0.t.nodes (ownB alX alB0) = alF := by decide +kernel
theorem alB_2 : (alB0.t.add (nameR 1) alF 2).1 = 0 := by decide +kernel
theorem alB_3 : (alB1.take ⟨0, 1, nameR 1⟩) = (6, alB1.tb) := if_pos (by decide +kernel)
theorem alB_4 : (alB1.take ⟨0, 2, nameR 1⟩).1 = 0 := by decide +kernel
theorem alB_5 : ofF alB2.t (ownB alX alB2).length (sumN alB2.t.nodes (ownB alX alB2)) alF = 5 := by decide +kernel
theorem alB_6 : headW alB2.t.nodes (ownB alX alB2) = nameR 1 := by decide +kernel
theorem alB_p : 0 < (ownB alX alB0).length := by decide +kernel
theorem alB_q : 0 < (ownB alX alB2).length := by decide +kernel
end Go.SL

