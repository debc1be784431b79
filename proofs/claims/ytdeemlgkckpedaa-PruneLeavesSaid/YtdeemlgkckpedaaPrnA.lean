import Derived.Test.YtdeemlgkckpedaaPrn3
import Derived.Test.YtdeemlgkckpedaaMPrn4
import Derived.LaidEqlPtr
set_option linter.unusedVariables false
set_option linter.unusedSimpArgs false
namespace Go.SL
open Go.Proofs

theorem Sat.dropM {w0 w : World} {l : List HProp} : ∀ (M : List HProp), Sat w0 w (M ++ l) → Sat w0 w l
 | [], s => s
 | _ :: M, s => Sat.dropM M s.drop
theorem op_eqpp {P : Program} {w0 : World} {n : Nat} {f : Fr} {l : List HProp} {d : Option Tmp} {x y : Operand} {T T' e : TypeId} {ty : TypeId} {pos : String} {aft} {g} {p q : Nat} (hu : P.underlying T = some (.pointer e)) (hte : ((P.info? e).map fun j => decide (j.size ≠ 0)) = some true) (hx : ev f x = .pointer (some ⟨p, 0, none⟩)) (hy : ev f y = .pointer (some ⟨q, 0, none⟩))
  (hs : ∀ w, Sat w0 w l → p ≠ q ∧ (∃ ca ta, w.heap[p]? = some (.cells ca ta (0, 0))) ∧ ∃ cb tb, w.heap[q]? = some (.cells cb tb (0, 0))) : OP P w0 n ⟨d, .binOp .eql T x y T', ty, pos, aft, g⟩ f l (.bool false) := fun M A w r s => by
 obtain ⟨h1, ⟨ca, ta, h2⟩, ⟨cb, tb, h3⟩⟩ := hs w (s.dropM M)
 cases hj : P.info? e with
 | none => rw [hj] at hte; cases hte
 | some j =>
  rw [hj] at hte
  have hsz : j.size ≠ 0 := by simpa using hte
  have h := run_eql_ptr_other w hu hj hsz (a := ⟨p, 0, none⟩) (b := ⟨q, 0, none⟩) (fun q => h1 (by injection q)) h2 h3
  simp only [execOp, r.eval, hx, hy]
  simp [eqGuard_ptr, h]
theorem Sat.trees_apart {w0 w : World} {l : List HProp} {p q : Nat} {t u : TreeS} (s : Sat w0 w (TreeObj p t :: TreeObj q u :: l)) : p ≠ q ∧ (∃ ca ta, w.heap[p]? = some (.cells ca ta (0, 0))) ∧ ∃ cb tb, w.heap[q]? = some (.cells cb tb (0, 0)) := by
 obtain ⟨_, _, _, _, s⟩ := s.treeOpen
 obtain ⟨_, _, _, _, s⟩ := (s.pull 3).treeOpen
 have h2 := s.blk
 have s3 := s.pull 3
 have h1 := s3.blk
 have s4 := s3.pull 1
 exact ⟨fun e => s4.ne e.symm, ⟨_, _, h1⟩, ⟨_, _, h2⟩⟩

set_option maxRecDepth 100000 in
set_option maxHeartbeats 1000000 in
theorem pAlive_calls {w0 w : World} {l : List HProp}  (hs : Sat w0 w (l))  :
  Calls Try.prog 13 #[] w (Ret w0 fun v l' => v = .bool true ∧ l' = l) := by
 refine calls_enter Try.func13 rfl rfl rfl hs ?_
 refine cd_sr ?_
 refine oq (op_assign (v := .bool _) rfl) ?_
 refine ol_nil_then ?_
 refine cd_sr ?_
 refine oq (op_build (L := pBlkC _) (vs := [(0, .int _ _), (1, .int _ _), (2, .int _ _), (3, .int _ _)]) bB_93 rfl ⟨⟨rfl, by rw [pBlkC_len]; rfl⟩, ⟨rfl, by rw [pBlkC_len]; rfl⟩, ⟨rfl, by rw [pBlkC_len]; rfl⟩, ⟨rfl, by rw [pBlkC_len]; rfl⟩, trivial⟩ ((pBlkC_b0 _ _ _).trans ((pBlkC_b1 _ _ _).trans ((pBlkC_b2 _ _ _).trans ((pBlkC_b3 _ _ _).trans rfl))))) ?_
 refine oq (op_build (L := pBlkC _) (vs := [(0, .int _ _), (1, .int _ _), (2, .int _ _), (3, .int _ _)]) bB_93 rfl ⟨⟨rfl, by rw [pBlkC_len]; rfl⟩, ⟨rfl, by rw [pBlkC_len]; rfl⟩, ⟨rfl, by rw [pBlkC_len]; rfl⟩, ⟨rfl, by rw [pBlkC_len]; rfl⟩, trivial⟩ ((pBlkC_b0 _ _ _).trans ((pBlkC_b1 _ _ _).trans ((pBlkC_b2 _ _ _).trans ((pBlkC_b3 _ _ _).trans rfl))))) ?_
 refine oq (op_build (L := pBlkC _) (vs := [(0, .int _ _), (1, .int _ _), (2, .int _ _), (3, .int _ _)]) bB_93 rfl ⟨⟨rfl, by rw [pBlkC_len]; rfl⟩, ⟨rfl, by rw [pBlkC_len]; rfl⟩, ⟨rfl, by rw [pBlkC_len]; rfl⟩, ⟨rfl, by rw [pBlkC_len]; rfl⟩, trivial⟩ ((pBlkC_b0 _ _ _).trans ((pBlkC_b1 _ _ _).trans ((pBlkC_b2 _ _ _).trans ((pBlkC_b3 _ _ _).trans rfl))))) ?_
 refine oi (os_bslice (E := encPBlk) [_, _, _] (ys := alM) sB_22 zv_93 rfl rfl rfl rfl (by decide)) ?_; rintro _ _ ⟨ao1, rfl, rfl⟩
 refine oi (os_call cb_14 rfl (fun w s => pMade_calls _ _ _ s (rds_row 0 rfl rfl))) ?_; rintro _ l2 (⟨hbad1, rfl, hl2⟩ | ⟨hxl1, pt1, pw1, pr1, pm1, rfl, rfl⟩)
 ·exact absurd hbad1 alM_in
 ·skip
  refine oq (op_move (v := .tuple _) rfl) ?_
  refine oq (op_extract (v := .pointer _) rfl rfl) ?_
  refine oq (op_extract (v := .pointer _) rfl rfl) ?_
  refine oq (op_extract (v := .pointer _) rfl rfl) ?_
  refine oq (op_extract (v := .bool _) rfl rfl) ?_
  refine oq (op_assign (v := .pointer _) rfl) ?_
  refine oq (op_assign (v := .pointer _) rfl) ?_
  refine oq (op_assign (v := .pointer _) rfl) ?_
  refine oq (op_assign (v := .bool _) rfl) ?_
  refine ol_nil_then ?_
  refine cd_seq ?_
  refine cd_sr ?_
  refine oq (op_move (v := .bool _) rfl) ?_
  refine oq (op_not rfl) ?_
  refine ol_nil_then ?_
  refine cd_cond_f rfl rfl ?_
  refine cd_skip ?_
  refine px_then ?_
  have hw := (OKM.run alM).1.wf
  have hi1 := alM_1
  have hle1 := Nat.le_of_eq (ownM_len alM)
  have hok1 := ownM_ok alM
  refine cd_sr ?_
  refine oq (op_move (v := .pointer _) rfl) ?_
  refine oq (op_move (v := .pointer _) rfl) ?_
  refine oi (os_call cb_17 rfl (fun w s => Name_calls (n := 1)  s )) ?_; rintro _ l ⟨rfl, rfl⟩
  refine ol_pull1 ?_
  refine ol_pull1 ?_
  refine oi (os_call cb_16 rfl (fun w s => PAllS_calls (t := (runM alM).1) (o := (ownM alM)) (a := 1) _ _ _  s hi1 hle1 hok1)) ?_; rintro _ _ ⟨pq2, qw2, rfl, rfl⟩
  refine oq (op_move (v := .tuple _) rfl) ?_
  refine oq (op_extract (v := .pointer _) rfl rfl) ?_
  refine oq (op_extract (v := .pointer _) rfl rfl) ?_
  refine oq (op_extract (v := .int _ _) rfl rfl) ?_
  refine oq (op_assign (v := .pointer _) rfl) ?_
  refine oq (op_assign (v := .pointer _) rfl) ?_
  refine oq (op_assign (v := .int _ _) rfl) ?_
  refine ol_nil_then ?_
  refine cd_sr ?_
  refine oq (op_move (v := .int _ _) rfl) ?_
  refine oq (op_eq rfl rfl) ?_
  refine oq (op_move (v := .bool _) rfl) ?_
  refine ol_split 30 rfl (fun hb1 => ?_) (fun hb1 => ?_)
  ·have hp1 := hb1
   (try simp only [bn] at hp1)
   refine ol_q (wn_some rfl rfl rfl hb1 rfl) (op_move (v := .pointer _) rfl) rfl ?_
   refine ol_i (wn_some rfl rfl rfl hb1 rfl) (os_call cb_29 rfl (fun w s => Len_calls _ _  s )) rfl ?_; rintro _ _ ⟨rfl, rfl⟩; rw [alM_2]
   refine ol_q (wn_some rfl rfl rfl hb1 rfl) (op_eq rfl rfl) rfl ?_
   refine oq (op_pick_t (v := .bool _) rfl hb1 rfl) ?_
   refine oq (op_move (v := .bool _) rfl) ?_
   refine ol_split 35 rfl (fun hb2 => ?_) (fun hb2 => ?_)
   ·have hp2 := hb2
    (try simp only [bn] at hp2)
    refine ol_q (wn_some rfl rfl rfl hb2 rfl) (op_move (v := .pointer _) rfl) rfl ?_
    refine ol_i (wn_some rfl rfl rfl hb2 rfl) (os_call cb_17 rfl (fun w s => Name_calls (n := 1)  s )) rfl ?_; rintro _ l ⟨rfl, rfl⟩
    refine ol_pull1 ?_
    refine ol_pull1 ?_
    refine ol_i (wn_some rfl rfl rfl hb2 rfl) (os_call cb_28 rfl (fun w s => Weight_calls _ _ _ _ _  s )) rfl ?_; rintro _ _ ⟨rfl, rfl⟩; rw [alM_3]
    refine ol_q (wn_some rfl rfl rfl hb2 rfl) (op_eq rfl rfl) rfl ?_
    refine oq (op_pick_t (v := .bool _) rfl hb2 rfl) ?_
    refine oq (op_move (v := .bool _) rfl) ?_
    refine ol_split 41 rfl (fun hb3 => ?_) (fun hb3 => ?_)
    ·have hp3 := hb3
     (try simp only [bn] at hp3)
     refine ol_q (wn_some rfl rfl rfl hb3 rfl) (op_move (v := .pointer _) rfl) rfl ?_
     refine ol_pull1 ?_
     refine ol_pull1 ?_
     refine ol_i (wn_some rfl rfl rfl hb3 rfl) (os_call cb_22 rfl (fun w s => Head_calls _ _ _ _  s (prO_le _ _) (prO_pos (idxOf_lt hi1) _))) rfl ?_; rintro _ _ ⟨rfl, rfl⟩; rw [alM_4]
     refine ol_i (wn_some rfl rfl rfl hb3 rfl) (os_call cb_17 rfl (fun w s => Name_calls (n := 3)  s )) rfl ?_; rintro _ l ⟨rfl, rfl⟩
     refine ol_q (wn_some rfl rfl rfl hb3 rfl) (op_eqroot _ _ rB_24 rfl rfl) rfl ?_
     refine oq (op_pick_t (v := .bool _) rfl hb3 rfl) ?_
     refine oq (op_assign (v := .bool _) rfl) ?_
     refine ol_nil_then ?_
     refine cd_ret ?_
     exact px_ret1 rfl (v := .bool _) rfl (fun _ s => (((((((s.del 6).del 5).del 4).del 3).del 2).del 1).del 0)) ⟨congrArg Value.bool (by first | rfl | simp), rfl⟩
    ·have hp3 := hb3
     (try simp only [bn] at hp3)
     exact absurd hb3 (by simp)
   ·have hp2 := hb2
    (try simp only [bn] at hp2)
    exact absurd hb2 (by simp)
  ·have hp1 := hb1
   (try simp only [bn] at hp1)
   exact absurd hb1 (by decide)
end Go.SL
