import Derived.Test.YtfklhdamklofeaaGreatK6
set_option linter.unusedVariables false
set_option linter.unusedSimpArgs false
set_option linter.unusedSectionVars false
set_option maxHeartbeats 1000000
set_option maxRecDepth 100000
namespace Go.SL
open Go.Proofs
def topI:Option Nat→Int
 | none=>-1
 | some b=>b
theorem topI_lt {o:Option Nat}:topI o<0↔o=none:=by cases o<;>simp [topI]
def takI (tk:List Nat) (n:Nat):List Bool:=(List.range n).map fun j=>decide (j∈tk)
theorem takI_len (tk:List Nat) (n:Nat):(takI tk n).length=n:=by unfold takI;simp
theorem takI_get {tk:List Nat} {n i:Nat} (h:i<(takI tk n).length):(takI tk n)[i]=decide (i∈tk):=by simp [takI]
theorem takI_nil (n:Nat):List.replicate n false=takI [] n:=by
 unfold takI;apply List.ext_getElem<;>simp
theorem takI_set (tk:List Nat) (n m:Nat):(takI tk n).set m true=takI (tk++[m]) n:=by
 apply List.ext_getElem
 ·simp [takI]
 ·intro i h1 h2
  rw [List.getElem_set]
  simp only [takI,List.getElem_map,List.getElem_range,List.mem_append,List.mem_singleton]
  by_cases h:m=i
  ·subst h;simp
  ·rw [if_neg h];congr 1;apply propext;constructor
   ·exact .inl
   ·rintro (q | q)
    ·exact q
    ·exact absurd q.symm h
theorem mapN_snoc (l:List Nat) (m:Nat):l.map (fun i:Nat=>(i:Int))++[(m:Int)]=(l++[m]).map (fun i:Nat=>(i:Int)):=by simp
theorem RMembers_calls {w0 w:World} {l:List HProp} (ao:Option Addr) (c:Nat) (xs:List Val) (n1 n2 n3 n4 n5 n6 n7 n8 n9 n10 n11:Int) (slot:Int) (hs:Sat w0 w (l)) (h0:0≤slot∧slot≤1073741824) (h2:1≤n2∧n2≤16∧n2≤xs.length) (hx:1≤xs.length∧xs.length≤64) (hr:Rds w0 l encVal ao xs) :
  Calls Tryz.prog 9 #[.agg (cfgC ⟨⟨ao,xs.length,c⟩,n1,n2,n3,n4,n5,n6,n7,n8,n9,n10,n11⟩).toArray,.int .i64 slot] w (Ret w0 fun v l'=>∃ a2 c2,v=.slice a2 (memI xs.length slot n2).length c2∧l'=Row 3 encI64 (.slice a2 (memI xs.length slot n2).length c2) (memI xs.length slot n2)::l):=by
 have hu:=u64N_lt slot
 obtain ⟨jm,hjm⟩:∃ jm:Nat,n2=(jm:Int):=⟨n2.toNat,by omega⟩
 have hll:=lotsL_len slot xs.length
 refine calls_enter Tryz.func9 rfl rfl rfl hs ?_
 refine Z5 ?_;intro bx1
 refine R8 ?_
 refine ols 13 rfl ?_ ?_
 ·intro hb1 hp1
  exact Z58
 intro hb1 hp1
 refine Zv ?_
 refine Z3r ?_
 refine Zf ?_
 refine Z8 ?_ ?_
 ·intro hb2 hp2
  exact Z5g
 intro hb2 hp2
 refine R9 ?_
 refine oq (op_ld 0 sc_22 rfl rfl (show (cfgC _).toArray[0]? = some (.slice ao xs.length c) from cfgC_a0 _)) ?_
 refine Z2d ?_
 refine R4 ?_
 refine cd_imp (fun _ s=>Sat.rowNil (E:=encRoot) (e:=35) s) ?_
 refine cd_loop2 (α:=Nat×Option Addr×Nat) [(5,6),(20,35)] (fun x=>[(5,.slice x.2.1 (lotsL slot x.1).length x.2.2),(20,.int .i64 (x.1:Int))]) (fun x=>Row 35 encRoot (.slice x.2.1 (lotsL slot x.1).length x.2.2) (lotsL slot x.1)::Blk bx1 (.cells (cfgC ⟨⟨ao,xs.length,c⟩,n1,n2,n3,n4,n5,n6,n7,n8,n9,n10,n11⟩).toArray 24 (0,0))::l) (fun x=>x.1≤xs.length) (fun x=>xs.length-x.1) (0,none,0) (Nat.zero_le _) ⟨rfl,rfl,trivial⟩ (fun _ s=>s) ?_
 rintro ⟨i,la,lc⟩ hi f;(try dsimp only at hi ⊢)
 refine Z3 ?_ ?_
 ·intro hb3 hp3
  have hi1:i<xs.length:=by omega
  refine R12 ?_
  refine Z3j ?_
  refine oi (os_call cb_34 rfl (fun w s=>RPut_calls (wd:=4) _ _  s (show clamp8 4=4 from rfl) (by omega))) ?_;rintro _ l ⟨rfl,rfl⟩
  refine oq (op_sadd (a:=boardT) rfl rfl (by rw [putB_length];show 5+4≤_;decide)) ?_
  refine R1 ?_
  refine Z86 ?_
  refine oi (os_call cb_34 rfl (fun w s=>RPut_calls (wd:=2) _ _  s (show clamp8 2=2 from rfl) (by omega))) ?_;rintro _ l ⟨rfl,rfl⟩
  refine oq (op_sadd rfl rfl (by rw [List.length_append,putB_length,putB_length];show 5+4+2≤_;decide)) ?_
  refine oi (os_call cb_24 rfl (fun w s=>ROf_calls _  s (by rw [List.length_append,List.length_append,putB_length,putB_length];show 5+4+2≤_;decide))) ?_;rintro _ l ⟨rfl,rfl⟩
  refine oi (os_bslice (E:=encRoot) [_] (ys:=[lotR slot i]) sB_38 zv_35 rfl rfl rfl rfl (by decide)) ?_;rintro _ _ ⟨ao1,rfl,rfl⟩
  refine Z2 ?_
  refine oi (os_append (E:=encRoot) rfl sB_38 zv_35 rfl rfl rfl (fun w s=>(rds_row 1 rfl rfl) [] w s) rfl (by rw [lotsL_len];simp;omega) (by unfold maxLen;rw [lotsL_len];simp;omega)) ?_;rintro _ _ ⟨ao2,ac2,rfl,rfl⟩
  refine R8 ?_
  have e1:=lotsL_succ slot i
  refine Zaz ?_
  exact Z0
 intro hb3 hp3
 obtain rfl:i=xs.length:=by omega
 refine R11 ?_
 refine Z73 ?_
 refine oi (os_make (E:=encBool) (xs.length) (false) sB_42 zv_4 rfl rfl rfl (by rw [lotsL_len]) (by omega) (by unfold maxLen;omega)) ?_;rintro _ _ ⟨ao3,rfl,rfl⟩;rw [takI_nil]
 refine R5 ?_
 refine Z72 ?_
 refine cd_loop2 (α:=Nat×Option Addr×Nat) [(7,7),(9,10),(39,79)] (fun x=>[(7,.slice x.2.1 ((memL (lotR slot) xs.length x.1).map fun i:Nat=>(i:Int)).length x.2.2)]) (fun x=>Row 3 encI64 (.slice x.2.1 ((memL (lotR slot) xs.length x.1).map fun i:Nat=>(i:Int)).length x.2.2) ((memL (lotR slot) xs.length x.1).map fun i:Nat=>(i:Int))::Row 4 encBool (.slice ao3 (takI [] xs.length).length xs.length) (takI (memL (lotR slot) xs.length x.1) xs.length)::Row 35 encRoot (.slice la (lotsL slot xs.length).length lc) (lotsL slot xs.length)::Blk bx1 (.cells (cfgC ⟨⟨ao,xs.length,c⟩,n1,n2,n3,n4,n5,n6,n7,n8,n9,n10,n11⟩).toArray 24 (0,0))::l) (fun x=>x.1≤jm) (fun x=>jm-x.1) (0,none,0) (Nat.zero_le _) ⟨rfl,trivial⟩ (fun _ s=>s) ?_
 rintro ⟨k,bo1,bc1⟩ hk f;(try dsimp only at hk ⊢)
 have hil:=(memL_inv (lotR slot) xs.length k (by omega)).1
 refine R3 ?_
 refine Z2v ?_
 refine R1 ?_
 refine oq (op_ld 3 sc_3 rfl rfl (show (cfgC _).toArray[2]? = some (.int .i64 n2) from cfgC_a2 _)) ?_
 refine Z6 ?_ ?_
 ·intro hb4 hp4
  have hkj:k<jm:=by have h:=of_decide_eq_true hb4;rw [List.length_map,hil] at h;omega
  have hk1:k<xs.length:=by omega
  obtain ⟨bm,hbm,hbn,hbt,hbe⟩:=memL_next (lotR slot) xs.length hk1
  refine R10 ?_
  refine Z73 ?_
  refine R4 ?_
  refine cd_loop2 (α:=Nat) [(9,10),(46,70)] (fun x=>[(9,.int .i64 (topI (leastO (lotR slot) (memL (lotR slot) xs.length k) x))),(46,.int .i64 (x:Int))]) (fun _=>_) (fun x=>x≤xs.length) (fun x=>xs.length-x) 0 (Nat.zero_le _) ⟨rfl,rfl,trivial⟩ (fun _ s=>s) ?_
  rintro j hj f;(try dsimp only at hj ⊢)
  refine Z3 ?_ ?_
  ·intro hb5 hp5
   have hj1:j<xs.length:=by omega
   refine R10 ?_
   refine cd_draw (M:=[]) mx [17] (by kernel_rfl) ?_
   refine R2 ?_
   refine rg_q (wn_none rfl) (op_index j sB_42 rfl rfl rfl (rds_row 1 rfl rfl) (by simp [takI]) (by rw [takI_len];omega)) rfl rfl ?_
   refine rg_q (wn_none rfl) (op_ldw sc_4 (rds_row 1 rfl rfl) rfl (by rw [takI_len];omega) rfl) rfl rfl ?_
   refine R2 ?_
   refine rgs 54 rfl ?_ ?_
   ·intro hb6 hp6
    have hjt:j∉(memL (lotR slot) xs.length k):=by have h:=hb6;rw [takI_get] at h;simpa using h
    refine rg_q (wn_some rfl rfl rfl hb6 rfl) (op_move (v:=.int _ _) rfl) rfl rfl ?_
    refine rg_q (wn_some rfl rfl rfl hb6 rfl) (op_lt rfl rfl) rfl rfl ?_
    refine rg_q (wn_some rfl rfl rfl hb6 rfl) (op_move (v:=.bool _) rfl) rfl rfl ?_
    refine rgs 57 rfl ?_ ?_
    ·intro hb7 hp7
     have eb:leastO (lotR slot) (memL (lotR slot) xs.length k) (j+1)=some j:=by rw [least_none (topI_lt.1 (of_decide_eq_true hb7)),if_neg hjt]
     refine Z41 ?_
     refine Z41 ?_
     refine Z41 ?_
     refine Z41 ?_
     refine Z41 ?_
     refine Z41 ?_
     refine Z41 ?_
     refine Z41 ?_
     refine Z41 ?_
     refine rg_q (wn_some rfl rfl rfl hb6 rfl) (op_pick_t (v:=.bool _) rfl hb7 rfl) rfl rfl ?_
     refine rg_q (wn_none rfl) (op_pick_t (v:=.bool _) rfl hb6 rfl) rfl rfl ?_
     refine Zu ?_
     refine Z35 ?_
     refine R10 ?_
     refine Zb0 ?_
     exact Z0
    intro hb7 hp7
    obtain ⟨b,hbj,hbl⟩:∃ b,leastO (lotR slot) (memL (lotR slot) xs.length k) j=some b∧b<j:=by rcases leastO_spec (lotR slot) (memL (lotR slot) xs.length k) j with ⟨q,_⟩ | ⟨b,q,q2,_⟩;exact absurd (topI_lt.2 q) (of_decide_eq_false hb7);exact ⟨b,q,q2⟩
    refine rg_q (wn_some rfl rfl rfl hb7 rfl) (op_move (v:=.slice _ _ _) rfl) rfl rfl ?_
    refine rg_q (wn_some rfl rfl rfl hb7 rfl) (op_move (v:=.int _ _) rfl) rfl rfl ?_
    refine rg_q (wn_some rfl rfl rfl hb7 rfl) (op_index j sB_38 rfl rfl rfl (rds_row 2 rfl rfl) rfl (by rw [lotsL_len];omega)) rfl rfl ?_
    refine rg_q (wn_some rfl rfl rfl hb7 rfl) (op_ldaw (L:=rootC _) ag_35 (rds_row 2 rfl rfl) rfl (by rw [lotsL_len];omega) rfl (rootC_ta _)) rfl rfl ?_
    refine rg_q (wn_some rfl rfl rfl hb7 rfl) (op_move (v:=.slice _ _ _) rfl) rfl rfl ?_
    refine rg_q (wn_some rfl rfl rfl hb7 rfl) (op_move (v:=.int _ _) rfl) rfl rfl ?_
    refine rg_q (wn_some rfl rfl rfl hb7 rfl) (op_index b sB_38 rfl rfl (by rw [hbj];rfl) (rds_row 2 rfl rfl) rfl (by rw [lotsL_len];omega)) rfl rfl ?_
    refine rg_q (wn_some rfl rfl rfl hb7 rfl) (op_ldaw (L:=rootC _) ag_35 (rds_row 2 rfl rfl) rfl (by rw [lotsL_len];omega) rfl (rootC_ta _)) rfl rfl ?_
    refine rg_i (wn_some rfl rfl rfl hb7 rfl) (os_call cb_35 rfl (fun w s=>RLess_calls _ _  s )) rfl rfl ?_;rintro _ _ ⟨rfl,rfl⟩;refine ⟨[],rfl,?_⟩
    refine rg_q (wn_some rfl rfl rfl hb6 rfl) (op_pick_f (v:=.bool _) rfl hb7 rfl) rfl rfl ?_
    refine rg_q (wn_none rfl) (op_pick_t (v:=.bool _) rfl hb6 rfl) rfl rfl ?_
    refine Zu ?_
    refine Z4 ?_ ?_
    ·intro hb8 hp8
     have eb:leastO (lotR slot) (memL (lotR slot) xs.length k) (j+1)=some j:=by rw [least_some hbj,if_pos ⟨hjt,by simpa [lotsL_get] using hb8⟩]
     refine R10 ?_
     refine Zb0 ?_
     exact Z0
    intro hb8 hp8
    have eb:leastO (lotR slot) (memL (lotR slot) xs.length k) (j+1)=some b:=by rw [least_some hbj,if_neg (fun h=>by have h2:=h.2;simp [lotsL_get] at hb8;rw [hb8] at h2;cases h2)]
    refine R7 ?_
    refine px_loop2 (j+1) (by omega) (by (try dsimp only);omega) ⟨congrArg (Value.int .i64) (by rw [eb,hbj]),congrArg (Value.int .i64) (by simp),trivial⟩ ?_ (fun _ s=>s)
    exact Z0
   intro hb6 hp6
   have hjt:j∈(memL (lotR slot) xs.length k):=by have h:=hb6;rw [takI_get] at h;simpa using h
   have eb:leastO (lotR slot) (memL (lotR slot) xs.length k) (j+1)=leastO (lotR slot) (memL (lotR slot) xs.length k) j:=by cases q:leastO (lotR slot) (memL (lotR slot) xs.length k) j with | none=>rw [least_none q,if_pos hjt] | some b=>rw [least_some q,if_neg (fun h=>h.1 hjt)]
   refine rg_skip (wn_some rfl rfl rfl hb6 rfl) rfl ?_
   refine rg_skip (wn_some rfl rfl rfl hb6 rfl) rfl ?_
   refine rg_skip (wn_some rfl rfl rfl hb6 rfl) rfl ?_
   refine Z3p ?_
   refine Z3p ?_
   refine Z3p ?_
   refine Z3p ?_
   refine Z89 ?_
   refine rg_skip (wn_some rfl rfl rfl hb6 rfl) rfl ?_
   refine rg_q (wn_none rfl) (op_pick_f (v:=.bool _) rfl hb6 rfl) rfl rfl ?_
   refine Zu ?_
   refine Z23 ?_
   refine R7 ?_
   refine px_loop2 (j+1) (by omega) (by (try dsimp only);omega) ⟨congrArg (Value.int .i64) (by rw [eb]),congrArg (Value.int .i64) (by simp),trivial⟩ ?_ (fun _ s=>s)
   exact Z0
  intro hb5 hp5
  obtain rfl:j=xs.length:=by omega
  rw [hbm]
  refine R11 ?_
  refine Z4 ?_ ?_
  ·intro hb9 hp9
   exact absurd (of_decide_eq_true hb9) (by show ¬ ((bm:Int)<0);omega)
  intro hb9 hp9
  refine R5 ?_
  refine oq (op_index bm sB_42 rfl rfl rfl (rds_row 1 rfl rfl) (by simp [takI]) (by rw [takI_len];omega)) ?_
  refine Z2 ?_
  refine oN (os_stsw  sc_4 rfl rfl rfl (by rw [takI_len];omega) rfl rfl) ?_;rintro _ _ ⟨rfl,rfl⟩;rw [takI_set]
  refine R5 ?_
  refine oi (os_bslice (E:=encI64) [_] (ys:=[(bm:Int)]) sB_39 zv_3 rfl rfl rfl rfl (by decide)) ?_;rintro _ _ ⟨ao4,rfl,rfl⟩
  refine Z7 ?_
  refine oi (os_append (E:=encI64) rfl sB_39 zv_3 rfl rfl rfl (fun w s=>(rds_row 1 rfl rfl) [] w s) rfl (by rw [List.length_map,hil];simp;omega) (by unfold maxLen;rw [List.length_map,hil];simp;omega)) ?_;rintro _ _ ⟨ao5,ac5,rfl,rfl⟩
  refine R3 ?_
  refine px_loop2 (k+1,ao5,ac5) (by (try dsimp only);omega) (by (try dsimp only);omega) ⟨congrArg (fun q=>Value.slice ao5 (List.length q) ac5) (by rw [hbe,←mapN_snoc]),trivial⟩ ?_ (fun _ s=>(by (try dsimp only);rw [hbe,←mapN_snoc];exact (s.del 1)))
  exact Z0
 intro hb4 hp4
 have hke:k=jm:=by have h:=of_decide_eq_false hb4;rw [List.length_map,hil] at h;omega
 refine R11 ?_
 have hmi:((memL (lotR slot) xs.length k).map fun i:Nat=>(i:Int))=memI xs.length slot n2:=by rw [hke,hjm];rfl
 rw [hmi]
 exact px_ret1 rfl (v:=.slice _ _ _) rfl (fun _ s=>(((s.del 3).del 2).del 1)) ⟨_,_,rfl,rfl⟩
def idxI (xs:List Int) (b:Int):Int:=if b∈xs then (xs.idxOf b:Int) else -1
theorem idxI_some {xs:List Int} {b:Int} {i:Nat} (h:i<xs.length) (hb:b=xs[i]) (hno:∀ j (h:j<xs.length),j<i→b≠xs[j]):idxI xs b=i:=by
 have hm:b∈xs:=hb ▸ List.getElem_mem h
 unfold idxI
 rw [if_pos hm]
 have h1:=List.idxOf_lt_length_of_mem hm
 have h2:xs[xs.idxOf b]=b:=List.getElem_idxOf h1
 rcases Nat.lt_trichotomy (xs.idxOf b) i with q | q | q
 ·exact absurd h2.symm (hno _ h1 q)
 ·rw [q]
 ·have h3:=List.not_of_lt_findIdx (p:=(· == b)) (xs:=xs) (i:=i) q
  rw [show (xs[i] == b)=true by simp [hb]] at h3;cases h3
theorem idxI_none {xs:List Int} {b:Int} (hno:∀ j (h:j<xs.length),b≠xs[j]):idxI xs b=-1:=by
 unfold idxI
 rw [if_neg]
 intro hm
 obtain ⟨j,h1,h2⟩:=List.mem_iff_getElem.1 hm
 exact hno j h1 h2.symm
theorem idxI_lt {xs:List Int} {b:Int}:idxI xs b<0↔b∉xs:=by
 unfold idxI
 by_cases h:b∈xs
 ·rw [if_pos h];simp [h]
 ·rw [if_neg h];simp [h]
theorem headD_get {ms:List Int} (h:0<ms.length):ms[0]=ms.headD (-1):=by cases ms with | nil=>cases h | cons a r=>rfl
theorem idxI_pos {xs:List Int} {b:Int} (h:b∈xs):0<idxI xs b↔xs.headD (-1)≠b:=by
 unfold idxI
 rw [if_pos h]
 cases xs with
 | nil=>cases h
 | cons a r =>
  rw [List.idxOf_cons]
  show _↔a≠b
  by_cases e:a=b
  ·subst e;simp
  ·have:(a == b)=false:=by simpa using e
   rw [this];simp [e]
def pickL:List Int→List Bool→List Int
 | m::ms,y::ys=>if y=true then m::pickL ms ys else pickL ms ys
 | _,_=>[]
def pickM (ms:List Int) (ys:List Bool):List Int×Bool:=if ms.length=ys.length then (pickL ms ys,true) else ([],false)
theorem pickL_succ:∀ {ms:List Int} {ys:List Bool} {i:Nat} (h:i<ms.length) (h2:i<ys.length),pickL (ms.take (i+1)) (ys.take (i+1))=pickL (ms.take i) (ys.take i)++if ys[i]=true then [ms[i]] else []
 | [],_,_,h,_=>absurd h (by simp)
 | _::_,[],_,_,h=>absurd h (by simp)
 | m::ms,y::ys,0,_,_=>by cases y<;>simp [pickL]
 | m::ms,y::ys,i+1,h,h2=>by
  have ih:=pickL_succ (ms:=ms) (ys:=ys) (i:=i) (by simpa using h) (by simpa using h2)
  rw [List.take_succ_cons,List.take_succ_cons,List.take_succ_cons,List.take_succ_cons]
  cases y
  ·simp only [pickL,Bool.false_eq_true,if_false];rw [ih];simp
  ·simp only [pickL,if_true];rw [ih];simp
theorem pickL_le:∀ (ms:List Int) (ys:List Bool),(pickL ms ys).length≤ms.length
 | [],_=>by simp [pickL]
 | _::_,[]=>by simp [pickL]
 | m::ms,y::ys=>by
  have ih:=pickL_le ms ys
  cases y
  ·simp only [pickL,Bool.false_eq_true,if_false,List.length_cons];omega
  ·simp only [pickL,if_true,List.length_cons];omega
theorem pickL_yes {ms:List Int} {ys:List Bool} {i:Nat} (h:i<ms.length) (h2:i<ys.length) (hy:ys[i]=true):pickL (ms.take i) (ys.take i)++[ms[i]]=pickL (ms.take (i+1)) (ys.take (i+1)):=by rw [pickL_succ h h2,if_pos hy]
theorem pickL_no {ms:List Int} {ys:List Bool} {i:Nat} (h:i<ms.length) (h2:i<ys.length) (hy:ys[i]=false):pickL (ms.take i) (ys.take i)=pickL (ms.take (i+1)) (ys.take (i+1)):=by rw [pickL_succ h h2,hy];simp
theorem IndexI_calls {w0 w:World} {l:List HProp} (ao:Option Addr) (c:Nat) (zs:List Int) (b:Int) (hs:Sat w0 w (l)) (hr:Rds w0 l encI64 ao zs) (hxl:zs.length≤1000000) :
  Calls Tryz.prog 161 #[.slice ao zs.length c,.int .i64 b] w (Ret w0 fun v l'=>v=.int .i64 (idxI zs b)∧l'=l):=by
 refine calls_enter Tryz.func161 rfl rfl rfl hs ?_
 refine R7 ?_
 refine Z33 ?_
 refine cd_loop2 (α:=Nat) [(4,5),(8,18)] (fun x=>[(8,.int .i64 (x:Int))]) (fun _=>_) (fun x=>x≤zs.length∧∀ j (h:j<zs.length),j<x→b≠zs[j]) (fun x=>zs.length-x) 0 ⟨Nat.zero_le _,fun j h h2=>absurd h2 (Nat.not_lt_zero _)⟩ ⟨rfl,trivial⟩ (fun _ s=>s) ?_
 rintro i ⟨hi,hno⟩ f;(try dsimp only at hi hno ⊢)
 refine Z3 ?_ ?_
 ·intro hb1 hp1
  refine R13 ?_
  refine oq (op_index _ sB_39 rfl rfl rfl hr rfl (by omega)) ?_
  refine oq (op_ldw sc_3 hr rfl (by omega) rfl) ?_
  refine Z6 ?_ ?_
  ·intro hb2 hp2
   have hbb:b=zs[i]:=by simpa using hb2
   refine R11 ?_
   exact px_ret1 rfl (v:=.int _ _) rfl (fun _ s=>s) ⟨congrArg (Value.int .i64) ((idxI_some (by omega) hbb hno).symm),rfl⟩
  intro hb2 hp2
  have hbb:b≠zs[i]:=by simpa using hb2
  refine R7 ?_
  refine px_loop2 (i+1) ⟨by omega,fun j h h2=>by rcases Nat.lt_succ_iff_lt_or_eq.1 h2 with h3 | h3;exact hno j h h3;subst h3;exact hbb⟩ (by (try dsimp only);omega) ⟨congrArg (Value.int .i64) (by simp),trivial⟩ ?_ (fun _ s=>s)
  exact Z0
 intro hb1 hp1
 refine R10 ?_
 exact px_ret1 rfl (v:=.int _ _) rfl (fun _ s=>s) ⟨congrArg (Value.int .i64) ((idxI_none fun j hj=>hno j hj (by omega)).symm),rfl⟩
theorem BPlace_calls {w0 w:World} {l:List HProp} (ao:Option Addr) (c:Nat) (xs:List Val) (n1 n2 n3 n4 n5 n6 n7 n8 n9 n10 n11:Int) (slot who:Int) (hs:Sat w0 w (l)) (h0:0≤slot∧slot≤1073741824) (h2:1≤n2∧n2≤16∧n2≤xs.length) (hx:1≤xs.length∧xs.length≤64) (hr:Rds w0 l encVal ao xs) :
  Calls Tryz.prog 124 #[.agg (cfgC ⟨⟨ao,xs.length,c⟩,n1,n2,n3,n4,n5,n6,n7,n8,n9,n10,n11⟩).toArray,.int .i64 slot,.int .i64 who] w (Ret w0 fun v l'=>v=.int .i64 (idxI (memI xs.length slot n2) who)∧l'=l):=by
 refine calls_enter Tryz.func124 rfl rfl rfl hs ?_
 refine Z5 ?_;intro bx1
 refine R6 ?_
 refine Z9v ?_;intro ma1 mc1
 refine R1 ?_
 refine oi (os_call cb_161 rfl (fun w s=>IndexI_calls _ _ _ _  s (rds_row 0 rfl rfl) (by rw [memI_len (by omega)];omega))) ?_;rintro _ _ ⟨rfl,rfl⟩
 refine R4 ?_
 exact Z5y
theorem RPlace_calls {w0 w:World} {l:List HProp} (ao:Option Addr) (c:Nat) (xs:List Val) (n1 n2 n3 n4 n5 n6 n7 n8 n9 n10 n11:Int) (slot who:Int) (hs:Sat w0 w (l)) (h0:0≤slot∧slot≤1073741824) (h2:1≤n2∧n2≤16∧n2≤xs.length) (hx:1≤xs.length∧xs.length≤64) (hr:Rds w0 l encVal ao xs) :
  Calls Tryz.prog 128 #[.agg (cfgC ⟨⟨ao,xs.length,c⟩,n1,n2,n3,n4,n5,n6,n7,n8,n9,n10,n11⟩).toArray,.int .i64 slot,.int .i64 who] w (Ret w0 fun v l'=>v=.int .i64 (idxI (memI xs.length slot n2) who)∧l'=l):=by
 have hml:=memI_len (slot:=slot) (n:=xs.length) (n2:=n2) (by omega)
 refine calls_enter Tryz.func128 rfl rfl rfl hs ?_
 refine Z5 ?_;intro bx1
 refine R7 ?_
 refine oi (os_call cb_9 rfl (fun w s=>RMembers_calls _ _ _ _ _ _ _ _ _ _ _ _ _ _ _  s (by omega) (by omega) (by omega) (hr.cons _))) ?_;rintro _ _ ⟨ma1,mc1,rfl,rfl⟩
 refine Z33 ?_
 refine cd_loop2 (α:=Nat) [(6,8),(13,22)] (fun x=>[(13,.int .i64 (x:Int))]) (fun _=>_) (fun x=>x≤(memI xs.length slot n2).length∧∀ j (h:j<(memI xs.length slot n2).length),j<x→who≠(memI xs.length slot n2)[j]) (fun x=>(memI xs.length slot n2).length-x) 0 ⟨Nat.zero_le _,fun j h h2=>absurd h2 (Nat.not_lt_zero _)⟩ ⟨rfl,trivial⟩ (fun _ s=>s) ?_
 rintro i ⟨hi,hno⟩ f;(try dsimp only at hi hno ⊢)
 refine Z3 ?_ ?_
 ·intro hb1 hp1
  have hi1:i<(memI xs.length slot n2).length:=by omega
  refine R6 ?_
  refine oq (op_index i sB_39 rfl rfl rfl (rds_row 0 rfl rfl) rfl (by omega)) ?_
  refine Z8a ?_
  refine R10 ?_
  refine Z4 ?_ ?_
  ·intro hb2 hp2
   have hbb:who=(memI xs.length slot n2)[i]:=by have h:=of_decide_eq_true hb2;exact h.symm
   refine R11 ?_
   exact px_ret1 rfl (v:=.int _ _) rfl (fun _ s=>((s.del 1).del 0)) ⟨congrArg (Value.int .i64) ((idxI_some (by omega) hbb hno).symm),rfl⟩
  intro hb2 hp2
  have hbb:who≠(memI xs.length slot n2)[i]:=fun h=>absurd h.symm (of_decide_eq_false hb2)
  refine R7 ?_
  refine px_loop2 (i+1) ⟨by omega,fun j h h2=>by rcases Nat.lt_succ_iff_lt_or_eq.1 h2 with h3 | h3;exact hno j h h3;subst h3;exact hbb⟩ (by (try dsimp only);omega) ⟨congrArg (Value.int .i64) (by simp),trivial⟩ ?_ (fun _ s=>s)
  exact Z0
 intro hb1 hp1
 refine R10 ?_
 exact px_ret1 rfl (v:=.int _ _) rfl (fun _ s=>((s.del 1).del 0)) ⟨congrArg (Value.int .i64) ((idxI_none fun j hj=>hno j hj (by omega)).symm),rfl⟩
theorem Proposer_calls {w0 w:World} {l:List HProp} (ao:Option Addr) (c:Nat) (xs:List Val) (n1 n2 n3 n4 n5 n6 n7 n8 n9 n10 n11:Int) (slot:Int) (hs:Sat w0 w (l)) (h0:0≤slot∧slot≤1073741824) (h2:1≤n2∧n2≤16∧n2≤xs.length) (hx:1≤xs.length∧xs.length≤64) (hr:Rds w0 l encVal ao xs) :
  Calls Tryz.prog 123 #[.agg (cfgC ⟨⟨ao,xs.length,c⟩,n1,n2,n3,n4,n5,n6,n7,n8,n9,n10,n11⟩).toArray,.int .i64 slot] w (Ret w0 fun v l'=>v=.int .i64 ((memI xs.length slot n2).headD (-1))∧l'=l):=by
 have hml:=memI_len (slot:=slot) (n:=xs.length) (n2:=n2) (by omega)
 refine calls_enter Tryz.func123 rfl rfl rfl hs ?_
 refine Z5 ?_;intro bx1
 refine R7 ?_
 refine Z9v ?_;intro ma1 mc1
 refine R5 ?_
 refine Z2v ?_
 refine Z6 ?_ ?_
 ·intro hb1 hp1
  refine R2 ?_
  refine oq (op_index 0 sB_39 rfl rfl rfl (rds_row 0 rfl rfl) rfl (by omega)) ?_
  refine Z8a ?_
  refine R5 ?_
  exact px_ret1 rfl (v:=.int _ _) rfl (fun _ s=>((s.del 1).del 0)) ⟨congrArg (Value.int .i64) (headD_get (by omega)),rfl⟩
 intro hb1 hp1
 exact Z6k
theorem Pick_calls {w0 w:World} {l:List HProp} (ao:Option Addr) (c:Nat) (xs:List Val) (n1 n2 n3 n4 n5 n6 n7 n8 n9 n10 n11:Int) (slot:Int) (bo:Option Addr) (bc:Nat) (ys:List Bool) (hs:Sat w0 w (l)) (h0:0≤slot∧slot≤1073741824) (h2:1≤n2∧n2≤16∧n2≤xs.length) (hx:1≤xs.length∧xs.length≤64) (hr:Rds w0 l encVal ao xs) (hb:Rds w0 l encBool bo ys) (hyl:ys.length≤1000) :
  Calls Tryz.prog 122 #[.agg (cfgC ⟨⟨ao,xs.length,c⟩,n1,n2,n3,n4,n5,n6,n7,n8,n9,n10,n11⟩).toArray,.int .i64 slot,.slice bo ys.length bc] w (Ret w0 fun v l'=>∃ a2 c2,v=.tuple #[.slice a2 (pickM (memI xs.length slot n2) ys).1.length c2,.bool (pickM (memI xs.length slot n2) ys).2]∧l'=Row 3 encI64 (.slice a2 (pickM (memI xs.length slot n2) ys).1.length c2) (pickM (memI xs.length slot n2) ys).1::l):=by
 have hml:=memI_len (slot:=slot) (n:=xs.length) (n2:=n2) (by omega)
 refine calls_enter Tryz.func122 rfl rfl rfl hs ?_
 refine Z5 ?_;intro bx1
 refine R7 ?_
 refine Z9v ?_;intro ma1 mc1
 refine R6 ?_
 refine Z2v ?_
 refine R2 ?_
 refine ols 18 rfl ?_ ?_
 ·intro hb1 hp1
  exact Z58
 intro hb1 hp1
 refine ol_q (wn_some rfl rfl rfl hb1 rfl) (op_move (v:=.slice _ _ _) rfl) rfl ?_
 refine ol_q (wn_some rfl rfl rfl hb1 rfl) (op_len_slice Tryz.underlying42 rfl) rfl ?_
 refine ol_q (wn_some rfl rfl rfl hb1 rfl) (op_move (v:=.slice _ _ _) rfl) rfl ?_
 refine Z9w ?_
 refine ol_q (wn_some rfl rfl rfl hb1 rfl) (op_ne rfl rfl) rfl ?_
 refine Zf ?_
 refine Z8 ?_ ?_
 ·intro hb2 hp2
  have hpm:(pickM (memI xs.length slot n2) ys)=([],false):=by unfold pickM;rw [if_neg (fun h=>absurd (of_decide_eq_true hb2) (by rw [h];simp))]
  refine R7 ?_
  rw [hpm]
  exact Z42
 intro hb2 hp2
 have hye:ys.length=(memI xs.length slot n2).length:=by have h:=hb2;simp at h;omega
 refine R9 ?_
 refine Z33 ?_
 refine Z72 ?_
 refine cd_loop2 (α:=Nat×Option Addr×Nat) [(9,11),(27,40)] (fun x=>[(9,.slice x.2.1 (pickL ((memI xs.length slot n2).take x.1) (ys.take x.1)).length x.2.2),(27,.int .i64 (x.1:Int))]) (fun x=>Row 3 encI64 (.slice x.2.1 (pickL ((memI xs.length slot n2).take x.1) (ys.take x.1)).length x.2.2) (pickL ((memI xs.length slot n2).take x.1) (ys.take x.1))::Row 3 encI64 (.slice ma1 (memI xs.length slot n2).length mc1) (memI xs.length slot n2)::Blk bx1 (.cells (cfgC ⟨⟨ao,xs.length,c⟩,n1,n2,n3,n4,n5,n6,n7,n8,n9,n10,n11⟩).toArray 24 (0,0))::l) (fun x=>x.1≤(memI xs.length slot n2).length) (fun x=>(memI xs.length slot n2).length-x.1) (0,none,0) (Nat.zero_le _) ⟨rfl,rfl,trivial⟩ (fun _ s=>s) ?_
 rintro ⟨i,b1,d1⟩ hi f;(try dsimp only at hi ⊢)
 refine Z3 ?_ ?_
 ·intro hb3 hp3
  have hi1:i<(memI xs.length slot n2).length:=by omega
  refine R6 ?_
  refine Z8b ?_
  refine Z74 ?_
  refine R7 ?_
  refine oq (op_index i sB_42 rfl rfl rfl (((hb.cons _).cons _).cons _) rfl (by omega)) ?_
  refine oq (op_ldw sc_4 (((hb.cons _).cons _).cons _) rfl (by omega) rfl) ?_
  refine Z8 ?_ ?_
  ·intro hb4 hp4
   have eO:=pickL_yes hi1 (by omega) hb4
   refine R3 ?_
   refine Z4k ?_;intro ao1
   refine Z2 ?_
   refine Zb1 ?_;intro ao2 ac2
   refine R8 ?_
   refine Zb2 ?_
   exact Z0
  intro hb4 hp4
  have eO:=pickL_no hi1 (by omega) hb4
  refine R7 ?_
  refine Zb3 ?_
  exact Z0
 intro hb3 hp3
 obtain rfl:i=(memI xs.length slot n2).length:=by omega
 refine R12 ?_
 have hpm:(pickM (memI xs.length slot n2) ys)=((pickL ((memI xs.length slot n2).take (memI xs.length slot n2).length) (ys.take (memI xs.length slot n2).length)),true):=by unfold pickM;rw [if_pos (by omega),List.take_length,show ys.take (memI xs.length slot n2).length=ys from List.take_of_length_le (by omega)]
 rw [hpm]
 exact Z5z
theorem RPick_calls {w0 w:World} {l:List HProp} (ao:Option Addr) (c:Nat) (xs:List Val) (n1 n2 n3 n4 n5 n6 n7 n8 n9 n10 n11:Int) (slot:Int) (bo:Option Addr) (bc:Nat) (ys:List Bool) (hs:Sat w0 w (l)) (h0:0≤slot∧slot≤1073741824) (h2:1≤n2∧n2≤16∧n2≤xs.length) (hx:1≤xs.length∧xs.length≤64) (hr:Rds w0 l encVal ao xs) (hb:Rds w0 l encBool bo ys) (hyl:ys.length≤1000) :
  Calls Tryz.prog 127 #[.agg (cfgC ⟨⟨ao,xs.length,c⟩,n1,n2,n3,n4,n5,n6,n7,n8,n9,n10,n11⟩).toArray,.int .i64 slot,.slice bo ys.length bc] w (Ret w0 fun v l'=>∃ a2 c2,v=.tuple #[.slice a2 (pickM (memI xs.length slot n2) ys).1.length c2,.bool (pickM (memI xs.length slot n2) ys).2]∧l'=Row 3 encI64 (.slice a2 (pickM (memI xs.length slot n2) ys).1.length c2) (pickM (memI xs.length slot n2) ys).1::l):=by
 have hml:=memI_len (slot:=slot) (n:=xs.length) (n2:=n2) (by omega)
 refine calls_enter Tryz.func127 rfl rfl rfl hs ?_
 refine Z5 ?_;intro bx1
 refine R7 ?_
 refine oi (os_call cb_9 rfl (fun w s=>RMembers_calls _ _ _ _ _ _ _ _ _ _ _ _ _ _ _  s (by omega) (by omega) (by omega) (hr.cons _))) ?_;rintro _ _ ⟨ma1,mc1,rfl,rfl⟩
 refine R6 ?_
 refine Z2v ?_
 refine R1 ?_
 refine Z4d ?_
 refine R2 ?_
 refine ols 19 rfl ?_ ?_
 ·intro hb1 hp1
  have hpm:(pickM (memI xs.length slot n2) ys)=([],false):=by unfold pickM;rw [if_neg (fun h=>absurd (of_decide_eq_true hb1) (by rw [h];simp))]
  refine Z1e ?_
  refine Z24 ?_
  refine Zq ?_
  refine Zh ?_
  refine R7 ?_
  rw [hpm]
  exact Z42
 intro hb1 hp1
 have hye:ys.length=(memI xs.length slot n2).length:=by have h:=hb1;simp at h;omega
 refine ol_q (wn_some rfl rfl rfl hb1 rfl) (op_move (v:=.slice _ _ _) rfl) rfl ?_
 refine Z9w ?_
 refine ol_q (wn_some rfl rfl rfl hb1 rfl) (op_eq rfl rfl) rfl ?_
 refine Zf ?_
 refine Z8 ?_ ?_
 ·intro hb2 hp2
  exact Z5g
 intro hb2 hp2
 refine R9 ?_
 refine Z33 ?_
 refine Z72 ?_
 refine cd_loop2 (α:=Nat×Option Addr×Nat) [(9,10),(26,40)] (fun x=>[(9,.slice x.2.1 (pickL ((memI xs.length slot n2).take x.1) (ys.take x.1)).length x.2.2),(26,.int .i64 (x.1:Int))]) (fun x=>Row 3 encI64 (.slice x.2.1 (pickL ((memI xs.length slot n2).take x.1) (ys.take x.1)).length x.2.2) (pickL ((memI xs.length slot n2).take x.1) (ys.take x.1))::Row 3 encI64 (.slice ma1 (memI xs.length slot n2).length mc1) (memI xs.length slot n2)::Blk bx1 (.cells (cfgC ⟨⟨ao,xs.length,c⟩,n1,n2,n3,n4,n5,n6,n7,n8,n9,n10,n11⟩).toArray 24 (0,0))::l) (fun x=>x.1≤(memI xs.length slot n2).length) (fun x=>(memI xs.length slot n2).length-x.1) (0,none,0) (Nat.zero_le _) ⟨rfl,rfl,trivial⟩ (fun _ s=>s) ?_
 rintro ⟨i,b1,d1⟩ hi f;(try dsimp only at hi ⊢)
 refine Z3 ?_ ?_
 ·intro hb3 hp3
  have hi1:i<(memI xs.length slot n2).length:=by omega
  refine R12 ?_
  refine oq (op_index i sB_42 rfl rfl rfl (((hb.cons _).cons _).cons _) rfl (by omega)) ?_
  refine oq (op_ldw sc_4 (((hb.cons _).cons _).cons _) rfl (by omega) rfl) ?_
  refine Z8 ?_ ?_
  ·intro hb4 hp4
   have eO:=pickL_yes hi1 (by omega) hb4
   refine R4 ?_
   refine Z8b ?_
   refine Z74 ?_
   refine Z4k ?_;intro ao1
   refine Z2 ?_
   refine Zb1 ?_;intro ao2 ac2
   refine R8 ?_
   refine Zb2 ?_
   exact Z0
  intro hb4 hp4
  have eO:=pickL_no hi1 (by omega) hb4
  refine R7 ?_
  refine Zb3 ?_
  exact Z0
 intro hb3 hp3
 obtain rfl:i=(memI xs.length slot n2).length:=by omega
 refine R12 ?_
 have hpm:(pickM (memI xs.length slot n2) ys)=((pickL ((memI xs.length slot n2).take (memI xs.length slot n2).length) (ys.take (memI xs.length slot n2).length)),true):=by unfold pickM;rw [if_pos (by omega),List.take_length,show ys.take (memI xs.length slot n2).length=ys from List.take_of_length_le (by omega)]
 rw [hpm]
 exact Z5z
theorem pad_calls {w0 w:World} {l:List HProp} (key:List UInt8) (wv:Int) (x:UInt8) (hs:Sat w0 w (l)) (hw:wv=(x.toNat:Int)) (hk:key.length≤64) :
  Calls Tryz.prog 219 #[.string (B key),.int .u8 wv] w (Ret w0 fun v l'=>v=.string (B (padK key x))∧l'=l):=by
 subst hw
 refine calls_enter Tryz.func219 rfl rfl rfl hs ?_
 refine R5 ?_
 refine oi (os_alloc (cs:=(bC (List.replicate 64 0)).toArray) zB_350 (by kernel_rfl)) ?_;rintro _ _ ⟨bx1,rfl,rfl⟩
 refine R3 ?_
 refine oq (op_slicea_all a1_350 rfl) ?_
 refine R1 ?_
 refine oi (os_copys _ 97 9 rfl s1_97 rfl rfl (by first | decide | (simp;done) | (simp;omega)) (Free.zero _)) ?_;rintro _ _ ⟨rfl,rfl⟩;rw [show key.take (min key.length 64)++(List.replicate 64 (0:UInt8)).drop (min key.length 64)=full key from full_copy hk]
 refine R8 ?_
 refine cd_loop2 (α:=Nat) [(6,6),(10,19)] (fun x0=>[(10,.int .i64 (x0:Int))]) (fun x0=>Blk bx1 (.cells (bC (mixK (full key) x x0)).toArray 350 (0,0))::l) (fun x0=>x0≤64) (fun x0=>64-x0) 0 (Nat.zero_le _) ⟨rfl,trivial⟩ (fun _ s=>by rw [mixK_zero x (full_len hk)];exact s) ?_
 rintro i hi f;(try dsimp only at hi ⊢)
 refine Z3 ?_ ?_
 ·intro hb1 hp1
  have hi64:i<64:=by omega
  refine R11 ?_
  refine oq (op_aidx0 i a1_350 rfl rfl rfl (by omega)) ?_
  refine oq (op_ld 0 sc_5 rfl rfl (mixK_at _ _ hi64)) ?_
  refine R1 ?_
  refine oq (op_xor8 _ _ rfl rfl) ?_
  refine oq (op_aidx0 i a1_350 rfl rfl rfl (by omega)) ?_
  refine oN (os_store (v:=.int _ _) sc_5 rfl rfl rfl (Nat.ble_eq_true_of_le (by rw [List.size_toArray,bC_len,mixK_len];omega)) (Free.zero _) (mixK_set _ _ hi64)) ?_;rintro _ _ ⟨rfl,rfl⟩
  refine R7 ?_
  refine Z9h ?_
  exact Z0
 intro hb1 hp1
 obtain rfl:i=64:=by omega
 refine R6 ?_
 refine oq (op_slicea_all a1_350 rfl) ?_
 refine oq (op_b2s sB_97 Tryz.underlying5 Tryz.underlying9 rfl (rds_bytes 0 rfl) (mixK_len _ _ _)) ?_
 refine R4 ?_
 exact px_ret1 rfl (v:=.string _) rfl (fun _ s=>(s.del 0)) ⟨rfl,rfl⟩
theorem Mac_calls {w0 w:World} {l:List HProp} (key:List UInt8) (lo:Option Addr) (lc:Nat) (ts:List (List UInt8)) (hs:Sat w0 w (l)) (hr:Rds w0 l encStr lo ts) (hn:ts.flatten.length<50000000) (hlen:ts.length≤100000) (hkl:key.length<50000000) :
  Calls Tryz.prog 186 #[.string (B key),.slice lo ts.length lc] w (Ret w0 fun v l'=>v=.agg (tagC (macM key ts.flatten)).toArray∧l'=l):=by
 refine calls_enter Tryz.func186 rfl rfl rfl hs ?_
 refine R1 ?_
 refine Z2f ?_;intro bx1
 refine R5 ?_
 refine Z27 ?_
 refine Z6 ?_ ?_
 ·intro hb1 hp1
  have hk1:64<key.length:=by omega
  have ek:keyM key=(shaM key).1:=if_pos hk1
  refine R2 ?_
  refine Z9x ?_;intro ao1
  refine oi (os_call cb_141 rfl (fun w s=>Of_calls _ _ _  s (rds_row 0 rfl rfl) (by simp;omega) (by simp))) ?_;rintro _ _ ⟨rfl,rfl⟩
  refine Zp ?_;intro bx2
  refine Z18 ?_
  refine oq (op_slicea_all a1_35 rfl) ?_
  refine oq (op_b2s sB_97 Tryz.underlying5 Tryz.underlying9 rfl (rds_root 0 rfl) (root_len _)) ?_
  refine R5 ?_
  refine Zb4 ?_
  refine Z9x ?_;intro ao2
  refine R1 ?_
  refine oi (os_append (E:=encStr) rfl sB_37 zv_9 rfl rfl rfl (fun w s=>((((hr.cons _).cons _).cons _).cons _) [] w s) rfl (by simp;omega) (by unfold maxLen;simp;omega)) ?_;rintro _ _ ⟨ao3,ac3,rfl,rfl⟩
  refine Zb5 ?_
  refine Zp ?_;intro bx3
  refine Z18 ?_
  refine cd_drawe (M:=[]) mx [1,4,5,6,7] ?_
  refine e_q 0 rfl (wn_none rfl) (op_move (v:=.string _) rfl) ?_
  refine Zcf ?_
  refine et_2 (i1:=1) (i2:=6) (by kernel_rfl) ?_ ?_
  ·
   refine Zb6 ?_
   refine et_2 (i1:=4) (i2:=6) (by kernel_rfl) ?_ ?_
   ·
    refine ei_i rfl rfl (wn_none rfl) (os_bslice (E:=encStr) [_,_] (ys:=[_,_]) sB_37 zv_9 rfl rfl rfl rfl (by decide)) rfl ?_;rintro _ _ ⟨ao4,rfl,rfl⟩;refine ⟨[_],rfl,?_⟩
    refine Z60 ?_ ?_
    ·
     refine Zb7 ?_
     refine Zs ?_
     refine Z8c ?_;intro bx4
     refine Zc ?_
     refine Z8d ?_
     refine Z9 ?_
     refine Z4l ?_
     refine Z4m ?_
     refine Z4n ?_
     refine ol_pull6 ?_
     refine Z34 ?_
     exact Z8e
    refine Z8c ?_;intro bx5
    refine Z2e ?_
    refine Zb8 ?_
    refine Zc ?_
    refine Z8d ?_
    refine Z9 ?_
    refine Z4l ?_
    refine Z4m ?_
    refine Z4n ?_
    refine ol_pull6 ?_
    refine Z34 ?_
    exact Z8e
   refine Z8f ?_;intro bx6
   refine Z1d ?_
   refine Z8g ?_;intro ao5
   refine Z2e ?_
   refine Z8h ?_
   refine Zc ?_
   refine Z8i ?_
   refine Z9 ?_
   refine Z4l ?_
   refine Z4m ?_
   refine Z4n ?_
   refine ol_pull6 ?_
   refine Z34 ?_
   exact Z8e
  refine Z8f ?_;intro bx7
  refine Z39 ?_
  refine Zb9 ?_
  refine Z1d ?_
  refine Z8g ?_;intro ao6
  refine Z2e ?_
  refine Z8h ?_
  refine Zc ?_
  refine Z8i ?_
  refine Z9 ?_
  refine Z4l ?_
  refine Z4m ?_
  refine Z4n ?_
  refine ol_pull6 ?_
  refine Z34 ?_
  exact Z8e
 intro hb1 hp1
 have hk1:key.length≤64:=by omega
 have ek:keyM key=key:=if_neg (by omega)
 refine R4 ?_
 refine Zb4 ?_
 refine Z9x ?_;intro ao7
 refine R1 ?_
 refine oi (os_append (E:=encStr) rfl sB_37 zv_9 rfl rfl rfl (fun w s=>((hr.cons _).cons _) [] w s) rfl (by simp;omega) (by unfold maxLen;simp;omega)) ?_;rintro _ _ ⟨ao8,ac8,rfl,rfl⟩
 refine Zb5 ?_
 refine Zp ?_;intro bx8
 refine Z18 ?_
 refine cd_drawe (M:=[]) mx [1,4,5,6,7] ?_
 refine e_q 0 rfl (wn_none rfl) (op_move (v:=.string _) rfl) ?_
 refine Zcf ?_
 refine et_2 (i1:=1) (i2:=6) (by kernel_rfl) ?_ ?_
 ·
  refine Zb6 ?_
  refine et_2 (i1:=4) (i2:=6) (by kernel_rfl) ?_ ?_
  ·
   refine ei_i rfl rfl (wn_none rfl) (os_bslice (E:=encStr) [_,_] (ys:=[_,_]) sB_37 zv_9 rfl rfl rfl rfl (by decide)) rfl ?_;rintro _ _ ⟨ao9,rfl,rfl⟩;refine ⟨[_],rfl,?_⟩
   refine Z60 ?_ ?_
   ·
    refine Zb7 ?_
    refine Zs ?_
    refine Z8c ?_;intro bx9
    refine Zc ?_
    refine Z8d ?_
    refine Z9 ?_
    refine Z4l ?_
    refine Z4m ?_
    refine Z4n ?_
    refine ol_pull4 ?_
    refine Z34 ?_
    exact Z8j
   refine Z8c ?_;intro bx10
   refine Z2e ?_
   refine Zb8 ?_
   refine Zc ?_
   refine Z8d ?_
   refine Z9 ?_
   refine Z4l ?_
   refine Z4m ?_
   refine Z4n ?_
   refine ol_pull4 ?_
   refine Z34 ?_
   exact Z8j
  refine Z8f ?_;intro bx11
  refine Z1d ?_
  refine Z8g ?_;intro ao10
  refine Z2e ?_
  refine Z8h ?_
  refine Zc ?_
  refine Z8i ?_
  refine Z9 ?_
  refine Z4l ?_
  refine Z4m ?_
  refine Z4n ?_
  refine ol_pull4 ?_
  refine Z34 ?_
  exact Z8j
 refine Z8f ?_;intro bx12
 refine Z39 ?_
 refine Zb9 ?_
 refine Z1d ?_
 refine Z8g ?_;intro ao11
 refine Z2e ?_
 refine Z8h ?_
 refine Zc ?_
 refine Z8i ?_
 refine Z9 ?_
 refine Z4l ?_
 refine Z4m ?_
 refine Z4n ?_
 refine ol_pull4 ?_
 refine Z34 ?_
 exact Z8j
theorem Join_calls {w0 w:World} {l:List HProp} (lo:Option Addr) (lc:Nat) (ts:List Tag) (hs:Sat w0 w (l)) (hr:Rds w0 l encTag lo ts) (hlen:ts.length≤1000000) :
  Calls Tryz.prog 188 #[.slice lo ts.length lc] w (Ret w0 fun v l'=>v=.agg (tagC (joinM ts)).toArray∧l'=l):=by
 refine calls_enter Tryz.func188 rfl rfl rfl hs ?_
 refine R1 ?_
 refine Z2f ?_;intro bx1
 refine R3 ?_
 refine Z2f ?_;intro bx2
 refine R5 ?_
 refine oq (op_len_slice Tryz.underlying175 rfl) ?_
 refine R4 ?_
 refine cd_loop2 (α:=Nat) [(5,6),(9,25)] (fun x=>[(9,.int .i64 (x:Int))]) (fun x=>Blk bx2 (.cells (tagC (joinM (ts.take x))).toArray 44 (0,0))::Blk bx1 (.cells (tagC Tag.zero).toArray 44 (0,0))::l) (fun x=>x≤ts.length) (fun x=>ts.length-x) 0 (Nat.zero_le _) ⟨rfl,trivial⟩ (fun _ s=>s) ?_
 rintro i hi f;(try dsimp only at hi ⊢)
 refine Z3 ?_ ?_
 ·intro hb1 hp1
  have hi1:i<ts.length:=by omega
  refine R5 ?_
  refine Zch ?_
  refine Z2f ?_;intro bx3
  refine Z3o ?_
  refine R7 ?_
  refine cd_loop2 (α:=Nat) [(6,6),(13,24)] (fun x=>[(13,.int .i64 (x:Int))]) (fun x=>Blk bx2 (.cells (bC (mixT (joinM (ts.take i)) ts[i] x)).toArray 44 (0,0))::Blk bx3 (.cells (tagC ts[i]).toArray 44 (0,0))::Blk bx1 (.cells (tagC Tag.zero).toArray 44 (0,0))::l) (fun x=>x≤16) (fun x=>16-x) 0 (Nat.zero_le _) ⟨rfl,trivial⟩ (fun _ s=>by rw [mixT_zero];exact (((s.pull 2).pull 1).pull 2)) ?_
  rintro j hj f;(try dsimp only at hj ⊢)
  refine Z3 ?_ ?_
  ·intro hb2 hp2
   have hj16:j<16:=by omega
   refine R9 ?_
   refine cd_drawt (M:=[]) mx [] 8 (by kernel_rfl) rfl rfl ?_
   dsimp only [List.take_succ_cons,List.take_zero,List.drop_succ_cons,List.drop_zero]
   refine R1 ?_
   refine rg_q (wn_none rfl) (op_aidx0 j a1_44 rfl rfl rfl (by omega)) rfl rfl ?_
   refine rg_q (wn_none rfl) (op_ld 0 sc_5 rfl rfl (mixT_at _ _ hj16)) rfl rfl ?_
   refine R1 ?_
   refine rg_q (wn_none rfl) (op_aidx0 j a1_44 rfl rfl rfl (by omega)) rfl rfl ?_
   refine rg_q (wn_none rfl) (op_ld 1 sc_5 rfl rfl (tagC_gd _ hj16)) rfl rfl ?_
   refine rg_q (wn_none rfl) (op_xor8 _ _ rfl rfl) rfl rfl ?_
   refine rg_q (wn_none rfl) (op_aidx0 j a1_44 rfl rfl rfl (by omega)) rfl rfl ?_
   refine rg_tail0 ?_
   refine oN (os_store (v:=.int _ _) sc_5 rfl rfl rfl (Nat.ble_eq_true_of_le (by rw [List.size_toArray,bC_len,mixT_len];omega)) (Free.zero _) (mixT_set _ _ hj16)) ?_;rintro _ _ ⟨rfl,rfl⟩
   refine R7 ?_
   refine Z85 ?_
   exact Z0
  intro hb2 hp2
  obtain rfl:j=16:=by omega
  refine R10 ?_
  have e1:=joinM_succ ts hi1
  refine px_loop2 (i+1) (by omega) (by (try dsimp only);omega) ⟨congrArg (Value.int .i64) (by simp),trivial⟩ ?_ (fun _ s=>(by (try dsimp only);rw [e1];exact (s.del 1)))
  exact Z0
 intro hb1 hp1
 obtain rfl:i=ts.length:=by omega
 rw [List.take_length]
 refine R6 ?_
 refine Z75 ?_
 refine Z2 ?_
 refine Z34 ?_
 exact px_rv1 rfl (rv_cella 0 ag_44 rfl rfl (tagC_take' _) (by simp [tagC_len])) (fun _ s=>((s.del 1).del 0)) ⟨rfl,rfl⟩
theorem RJoin_calls {w0 w:World} {l:List HProp} (lo:Option Addr) (lc:Nat) (ts:List Tag) (hs:Sat w0 w (l)) (hr:Rds w0 l encTag lo ts) (hlen:ts.length≤1000000) :
  Calls Tryz.prog 82 #[.slice lo ts.length lc] w (Ret w0 fun v l'=>v=.agg (tagC (joinM ts)).toArray∧l'=l):=by
 refine calls_enter Tryz.func82 rfl rfl rfl hs ?_
 refine R1 ?_
 refine Z2f ?_;intro bx1
 refine R3 ?_
 refine Z2f ?_;intro bx2
 refine R8 ?_
 refine cd_loop2 (α:=Nat) [(4,4),(6,26)] (fun x=>[(7,.int .i64 (x:Int))]) (fun x=>Blk bx2 (.cells (bC (colT ts x 0)).toArray 44 (0,0))::Blk bx1 (.cells (tagC Tag.zero).toArray 44 (0,0))::l) (fun x=>x≤16) (fun x=>16-x) 0 (Nat.zero_le _) ⟨rfl,trivial⟩ (fun _ s=>by rw [colT_zero];exact s) ?_
 rintro i hi f;(try dsimp only at hi ⊢)
 refine Z3 ?_ ?_
 ·intro hb1 hp1
  have hi16:i<16:=by omega
  refine R11 ?_
  refine oq (op_len_slice Tryz.underlying175 rfl) ?_
  refine R4 ?_
  refine cd_loop2 (α:=Nat) [(6,6),(12,25)] (fun x=>[(12,.int .i64 (x:Int))]) (fun x=>Blk bx2 (.cells (bC (colT ts i x)).toArray 44 (0,0))::Blk bx1 (.cells (tagC Tag.zero).toArray 44 (0,0))::l) (fun x=>x≤ts.length) (fun x=>ts.length-x) 0 (Nat.zero_le _) ⟨rfl,trivial⟩ (fun _ s=>s) ?_
  rintro j hj f;(try dsimp only at hj ⊢)
  refine Z3 ?_ ?_
  ·intro hb2 hp2
   have hj1:j<ts.length:=by omega
   refine R5 ?_
   refine Zch ?_
   refine Z2f ?_;intro bx3
   refine Z3o ?_
   refine R2 ?_
   refine cd_drawt (M:=[]) mx [] 9 (by kernel_rfl) rfl rfl ?_
   dsimp only [List.take_succ_cons,List.take_zero,List.drop_succ_cons,List.drop_zero]
   refine R2 ?_
   refine rg_q (wn_none rfl) (op_aidx0 i a1_44 rfl rfl rfl (by omega)) rfl rfl ?_
   refine rg_q (wn_none rfl) (op_ld 1 sc_5 rfl rfl (colT_at _ _ hi16)) rfl rfl ?_
   refine R1 ?_
   refine rg_q (wn_none rfl) (op_aidx0 i a1_44 rfl rfl rfl (by omega)) rfl rfl ?_
   refine rg_q (wn_none rfl) (op_ld 0 sc_5 rfl rfl (tagC_gd _ hi16)) rfl rfl ?_
   refine rg_q (wn_none rfl) (op_xor8 _ _ rfl rfl) rfl rfl ?_
   refine rg_q (wn_none rfl) (op_aidx0 i a1_44 rfl rfl rfl (by omega)) rfl rfl ?_
   refine rg_tail0 ?_
   refine Z2 ?_
   refine oN (os_store (v:=.int _ _) sc_5 rfl rfl rfl (Nat.ble_eq_true_of_le (by rw [List.size_toArray,bC_len,colT_len];omega)) (Free.zero _) (colT_set _ hi16 hj1)) ?_;rintro _ _ ⟨rfl,rfl⟩
   refine R7 ?_
   refine px_loop2 (j+1) (by omega) (by (try dsimp only);omega) ⟨congrArg (Value.int .i64) (by simp),trivial⟩ ?_ (fun _ s=>(s.del 1))
   exact Z0
  intro hb2 hp2
  obtain rfl:j=ts.length:=by omega
  refine R10 ?_
  have e1:=colT_next ts i
  refine px_loop2 (i+1) (by omega) (by (try dsimp only);omega) ⟨congrArg (Value.int .i64) (by simp),trivial⟩ ?_ (fun _ s=>(by (try dsimp only);rw [←e1];exact s))
  exact Z0
 intro hb1 hp1
 obtain rfl:i=16:=by omega
 rw [colT_all]
 refine R6 ?_
 refine Z75 ?_
 refine Z2 ?_
 refine Z34 ?_
 exact px_rv1 rfl (rv_cella 0 ag_44 rfl rfl (tagC_take' _) (by simp [tagC_len])) (fun _ s=>((s.del 1).del 0)) ⟨rfl,rfl⟩
theorem RMac_calls {w0 w:World} {l:List HProp} (key s:List UInt8) (hs:Sat w0 w (l)) (hk1:key.length≤100000) (hs1:s.length≤100000) :
  Calls Tryz.prog 81 #[.string (B key),.string (B s)] w (Ret w0 fun v l'=>v=.agg (tagC (macM key s)).toArray∧l'=l):=by
 refine calls_enter Tryz.func81 rfl rfl rfl hs ?_
 refine R1 ?_
 refine Z2f ?_;intro bx1
 refine R5 ?_
 refine Z27 ?_
 refine Z6 ?_ ?_
 ·intro hb1 hp1
  have ek:keyM key=(shaM key).1:=if_pos (by omega)
  refine R2 ?_
  refine oi (os_call cb_24 rfl (fun w s=>ROf_calls _  s (by first | omega | (simp;done) | (simp;omega)))) ?_;rintro _ l ⟨rfl,rfl⟩
  refine oi (os_call cb_129 rfl (fun w s=>text_calls _  s )) ?_;rintro _ l ⟨rfl,rfl⟩
  refine R5 ?_
  refine Zba ?_
  rintro k hk f;(try dsimp only at hk ⊢)
  have hlk:((keyM key)++List.replicate k 0).length=(keyM key).length+k:=by simp
  have hkm:=keyM_len key
  refine R3 ?_
  refine Z27 ?_
  refine Z6 ?_ ?_
  ·intro hb2 hp2
   have hk2:k<64-(keyM key).length:=by omega
   refine R5 ?_
   refine Z3n ?_
   refine R3 ?_
   have e1:((keyM key)++List.replicate (k+1) 0)=((keyM key)++List.replicate k 0)++[0]:=by rw [List.replicate_succ'];simp
   refine Z9g ?_
   exact Z0
  intro hb2 hp2
  obtain rfl:k=64-(keyM key).length:=by omega
  rw [show ((keyM key)++List.replicate (64-(keyM key).length) 0)=full (keyM key) from rfl]
  refine R16 ?_
  refine Zbb ?_
  rintro i hi f;(try dsimp only at hi ⊢)
  have hfl:=full_len (keyM_len key)
  have hp1:((padK (keyM key) 54).take i).length=i:=by rw [List.length_take,padK_len];omega
  have hp2:((padK (keyM key) 92).take i).length=i:=by rw [List.length_take,padK_len];omega
  refine Z1u ?_ ?_
  ·intro hb3 hp3
   have hi64:i<64:=by omega
   refine R8 ?_
   refine Z8k ?_
   refine oq (op_xor8 _ 54 rfl rfl) ?_
   refine Z4w ?_;intro ao1
   refine Z2j ?_
   refine Z3n ?_
   refine R7 ?_
   refine Z8k ?_
   refine oq (op_xor8 _ 92 rfl rfl) ?_
   refine Z4w ?_;intro ao2
   refine Z2j ?_
   refine Z3n ?_
   refine R9 ?_
   have e1:=padK_step (keyM key) 54 hi64
   have e2:=padK_step (keyM key) 92 hi64
   refine Zbc ?_
   exact Z0
  intro hb3 hp3
  obtain rfl:i=64:=by omega
  rw [List.take_of_length_le (show (padK (keyM key) 54).length≤64 by rw [padK_len];exact Nat.le_refl _),List.take_of_length_le (show (padK (keyM key) 92).length≤64 by rw [padK_len];exact Nat.le_refl _)]
  have hq1:=padK_len (keyM key) 54
  have hq2:=padK_len (keyM key) 92
  refine R9 ?_
  refine Z3n ?_
  refine oi (os_call cb_24 rfl (fun w s=>ROf_calls _  s (by rw [List.length_append];omega))) ?_;rintro _ l ⟨rfl,rfl⟩
  refine oi (os_call cb_129 rfl (fun w s=>text_calls _  s )) ?_;rintro _ l ⟨rfl,rfl⟩
  refine oq (op_sadd rfl rfl (by rw [root_len];omega)) ?_
  refine oi (os_call cb_24 rfl (fun w s=>ROf_calls _  s (by rw [List.length_append,root_len];omega))) ?_;rintro _ l ⟨rfl,rfl⟩
  refine Zp ?_;intro bx2
  refine Z18 ?_
  refine Z2f ?_;intro bx3
  refine R8 ?_
  refine cd_loop2 (α:=Nat) [(10,10),(50,58)] (fun x=>[(50,.int .i64 (x:Int))]) (fun x=>Blk bx3 (.cells (bC (tagP (shaM (padK (keyM key) 92++(shaM (padK (keyM key) 54++s)).1)) x)).toArray 44 (0,0))::Blk bx2 (.cells (rootC (shaM (padK (keyM key) 92++(shaM (padK (keyM key) 54++s)).1))).toArray 35 (0,0))::Blk bx1 (.cells (tagC Tag.zero).toArray 44 (0,0))::l) (fun x=>x≤16) (fun x=>16-x) 0 (Nat.zero_le _) ⟨rfl,trivial⟩ (fun _ s1=>by rw [tagP_zero];exact s1) ?_
  rintro j hj f;(try dsimp only at hj ⊢)
  refine Z3 ?_ ?_
  ·intro hb4 hp4
   have hj16:j<16:=by omega
   refine R12 ?_
   refine oq (op_aidx0 j a1_35 rfl rfl rfl (by omega)) ?_
   refine oq (op_ld 1 sc_5 rfl rfl (rootC_gd _ (by omega))) ?_
   refine oq (op_aidx0 j a1_44 rfl rfl rfl (by omega)) ?_
   refine Zbd ?_
   refine R7 ?_
   refine Z85 ?_
   exact Z0
  intro hb4 hp4
  obtain rfl:j=16:=by omega
  rw [tagP_all]
  refine R6 ?_
  refine Z75 ?_
  refine Z7 ?_
  refine Z34 ?_
  exact px_rv1 rfl (rv_cella 0 ag_44 rfl rfl (tagC_take' _) (by simp [tagC_len])) (fun _ s=>(((s.del 2).del 1).del 0)) ⟨rfl,rfl⟩
 intro hb1 hp1
 have ek:keyM key=key:=if_neg (by omega)
 refine R4 ?_
 refine Zba ?_
 rintro k hk f;(try dsimp only at hk ⊢)
 have hlk:((keyM key)++List.replicate k 0).length=(keyM key).length+k:=by simp
 have hkm:=keyM_len key
 refine R3 ?_
 refine Z27 ?_
 refine Z6 ?_ ?_
 ·intro hb5 hp5
  have hk2:k<64-(keyM key).length:=by omega
  refine R5 ?_
  refine Z3n ?_
  refine R3 ?_
  have e1:((keyM key)++List.replicate (k+1) 0)=((keyM key)++List.replicate k 0)++[0]:=by rw [List.replicate_succ'];simp
  refine Z9g ?_
  exact Z0
 intro hb5 hp5
 obtain rfl:k=64-(keyM key).length:=by omega
 rw [show ((keyM key)++List.replicate (64-(keyM key).length) 0)=full (keyM key) from rfl]
 refine R16 ?_
 refine Zbb ?_
 rintro i hi f;(try dsimp only at hi ⊢)
 have hfl:=full_len (keyM_len key)
 have hp1:((padK (keyM key) 54).take i).length=i:=by rw [List.length_take,padK_len];omega
 have hp2:((padK (keyM key) 92).take i).length=i:=by rw [List.length_take,padK_len];omega
 refine Z1u ?_ ?_
 ·intro hb6 hp6
  have hi64:i<64:=by omega
  refine R8 ?_
  refine Z8k ?_
  refine oq (op_xor8 _ 54 rfl rfl) ?_
  refine Z4w ?_;intro ao3
  refine Z2j ?_
  refine Z3n ?_
  refine R7 ?_
  refine Z8k ?_
  refine oq (op_xor8 _ 92 rfl rfl) ?_
  refine Z4w ?_;intro ao4
  refine Z2j ?_
  refine Z3n ?_
  refine R9 ?_
  have e1:=padK_step (keyM key) 54 hi64
  have e2:=padK_step (keyM key) 92 hi64
  refine Zbc ?_
  exact Z0
 intro hb6 hp6
 obtain rfl:i=64:=by omega
 rw [List.take_of_length_le (show (padK (keyM key) 54).length≤64 by rw [padK_len];exact Nat.le_refl _),List.take_of_length_le (show (padK (keyM key) 92).length≤64 by rw [padK_len];exact Nat.le_refl _)]
 have hq1:=padK_len (keyM key) 54
 have hq2:=padK_len (keyM key) 92
 refine R9 ?_
 refine Z3n ?_
 refine oi (os_call cb_24 rfl (fun w s=>ROf_calls _  s (by rw [List.length_append];omega))) ?_;rintro _ l ⟨rfl,rfl⟩
 refine oi (os_call cb_129 rfl (fun w s=>text_calls _  s )) ?_;rintro _ l ⟨rfl,rfl⟩
 refine oq (op_sadd rfl rfl (by rw [root_len];omega)) ?_
 refine oi (os_call cb_24 rfl (fun w s=>ROf_calls _  s (by rw [List.length_append,root_len];omega))) ?_;rintro _ l ⟨rfl,rfl⟩
 refine Zp ?_;intro bx4
 refine Z18 ?_
 refine Z2f ?_;intro bx5
 refine R8 ?_
 refine cd_loop2 (α:=Nat) [(10,10),(50,58)] (fun x=>[(50,.int .i64 (x:Int))]) (fun x=>Blk bx5 (.cells (bC (tagP (shaM (padK (keyM key) 92++(shaM (padK (keyM key) 54++s)).1)) x)).toArray 44 (0,0))::Blk bx4 (.cells (rootC (shaM (padK (keyM key) 92++(shaM (padK (keyM key) 54++s)).1))).toArray 35 (0,0))::Blk bx1 (.cells (tagC Tag.zero).toArray 44 (0,0))::l) (fun x=>x≤16) (fun x=>16-x) 0 (Nat.zero_le _) ⟨rfl,trivial⟩ (fun _ s1=>by rw [tagP_zero];exact s1) ?_
 rintro j hj f;(try dsimp only at hj ⊢)
 refine Z3 ?_ ?_
 ·intro hb7 hp7
  have hj16:j<16:=by omega
  refine R12 ?_
  refine oq (op_aidx0 j a1_35 rfl rfl rfl (by omega)) ?_
  refine oq (op_ld 1 sc_5 rfl rfl (rootC_gd _ (by omega))) ?_
  refine oq (op_aidx0 j a1_44 rfl rfl rfl (by omega)) ?_
  refine Zbd ?_
  refine R7 ?_
  refine Z85 ?_
  exact Z0
 intro hb7 hp7
 obtain rfl:j=16:=by omega
 rw [tagP_all]
 refine R6 ?_
 refine Z75 ?_
 refine Z7 ?_
 refine Z34 ?_
 exact px_rv1 rfl (rv_cella 0 ag_44 rfl rfl (tagC_take' _) (by simp [tagC_len])) (fun _ s=>(((s.del 2).del 1).del 0)) ⟨rfl,rfl⟩
def o3 {α:Type} (k:Int) (a b:α):α:=if k=3 then a else b
theorem o3_y {α:Type} {k:Int} (h:k=3) (a b:α):o3 k a b=a:=if_pos h
theorem o3_n {α:Type} {k:Int} (h:k≠3) (a b:α):o3 k a b=b:=if_neg h
/-- who speaks -/
def spk (n:Nat) (n2 k sl mb:Int) (bd:Nat) (ys:List Bool):List Int×Bool :=
 if goodW k sl mb bd ys=false then ([],false)
 else if k=3 then pickM (memI n sl n2) ys
 else if mb∉memI n sl n2∨(k=1∧(memI n sl n2).headD (-1)≠mb) then ([],false) else ([mb],true)
theorem spk_bad {n:Nat} {n2 k sl mb:Int} {bd:Nat} {ys:List Bool} (h:goodW k sl mb bd ys=false):spk n n2 k sl mb bd ys=([],false):=if_pos h
theorem spk_sum {n:Nat} {n2 k sl mb:Int} {bd:Nat} {ys:List Bool} (h:goodW k sl mb bd ys=true) (hk:k=3):spk n n2 k sl mb bd ys=pickM (memI n sl n2) ys:=by unfold spk;rw [if_neg (by rw [h];simp),if_pos hk]
theorem spk_one {n:Nat} {n2 k sl mb:Int} {bd:Nat} {ys:List Bool} (h:goodW k sl mb bd ys=true) (hk:k≠3):spk n n2 k sl mb bd ys=if mb∉memI n sl n2∨(k=1∧(memI n sl n2).headD (-1)≠mb) then ([],false) else ([mb],true):=by unfold spk;rw [if_neg (by rw [h];simp),if_neg hk]
theorem spk_ok {n:Nat} {n2 k sl mb:Int} {bd:Nat} {ys:List Bool} (h:(spk n n2 k sl mb bd ys).2=true):goodW k sl mb bd ys=true∧(k≠3→(spk n n2 k sl mb bd ys).1=[mb]∧mb∈memI n sl n2):=by
 by_cases hg:goodW k sl mb bd ys=true
 ·refine ⟨hg,fun hk=>?_⟩
  rw [spk_one hg hk] at h ⊢
  by_cases hc:mb∉memI n sl n2∨(k=1∧(memI n sl n2).headD (-1)≠mb)
  ·rw [if_pos hc] at h;cases h
  ·rw [if_neg hc];exact ⟨rfl,Classical.byContradiction fun q=>hc (.inl q)⟩
 ·rw [spk_bad (by simpa using hg)] at h;cases h
theorem pickL_mem:∀ {ms:List Int} {ys:List Bool} {m:Int},m∈pickL ms ys→m∈ms
 | [],_,_,h=>by simp [pickL] at h
 | _::_,[],_,h=>by simp [pickL] at h
 | a::ms,y::ys,m,h=>by
  cases y
  ·simp only [pickL,Bool.false_eq_true,if_false] at h;exact List.mem_cons_of_mem _ (pickL_mem h)
  ·simp only [pickL,if_true,List.mem_cons] at h
   rcases h with rfl | h
   ·exact List.mem_cons_self
   ·exact List.mem_cons_of_mem _ (pickL_mem h)
theorem spk_mem {n:Nat} {n2 k sl mb:Int} {bd:Nat} {ys:List Bool} {m:Int} (h:m∈(spk n n2 k sl mb bd ys).1):m∈memI n sl n2:=by
 by_cases hg:goodW k sl mb bd ys=true
 ·by_cases hk:k=3
  ·rw [spk_sum hg hk] at h
   unfold pickM at h
   split at h
   ·exact pickL_mem h
   ·cases h
  ·rw [spk_one hg hk] at h
   by_cases hc:mb∉memI n sl n2∨(k=1∧(memI n sl n2).headD (-1)≠mb)
   ·rw [if_pos hc] at h;cases h
   ·rw [if_neg hc] at h
    obtain rfl:=List.mem_singleton.1 h
    exact Classical.byContradiction fun q=>hc (.inl q)
 ·rw [spk_bad (by simpa using hg)] at h;cases h
theorem spk_len {n:Nat} {n2 k sl mb:Int} {bd:Nat} {ys:List Bool} (h2:1≤n2∧n2≤16∧n2≤n):(spk n n2 k sl mb bd ys).1.length≤16:=by
 have hl:=memI_len (slot:=sl) h2.2.2
 by_cases hg:goodW k sl mb bd ys=true
 ·by_cases hk:k=3
  ·rw [spk_sum hg hk]
   unfold pickM
   split
   ·have:=pickL_le (memI n sl n2) ys;show (pickL _ _).length≤16;omega
   ·simp
  ·rw [spk_one hg hk]
   split<;>simp
 ·rw [spk_bad (by simpa using hg)];simp
def keyAt (xs:List Val) (i:Int):List UInt8:=((xs[i.toNat]?).map (·.key)).getD []
theorem keyAt_get {xs:List Val} {q:Nat} (h:q<xs.length):keyAt xs (q:Int)=xs[q].key:=by unfold keyAt;simp [h]
def tgF (xs:List Val) (k sl:Int) (tg:Root) (mb:Int) (bd:Nat) (bits:List Bool) (i:Int):Tag:=macM (keyAt xs i) (plainW (o3 k 2 k) sl tg (o3 k i mb) (o3 k 0 bd) (o3 k [] bits))
def tagM (xs:List Val) (n2 k sl:Int) (tg:Root) (mb:Int) (bd:Nat) (bits:List Bool):Tag×Bool :=
 if (spk xs.length n2 k sl mb bd bits).2=true then (joinM ((spk xs.length n2 k sl mb bd bits).1.map (tgF xs k sl tg mb bd bits)),true) else (Tag.zero,false)
theorem good_two {k sl mb m:Int} {bd:Nat} {bits:List Bool} (h:goodW k sl mb bd bits=true) (hm:0≤m∧m<64):goodW 2 sl m 0 []=true:=by
 rw [goodW_iff] at *
 obtain ⟨h1,h2,_⟩:=h
 exact ⟨h1,h2,hm.1,by omega,.inr rfl,.inr ⟨.inr rfl,rfl⟩⟩
theorem plainW_le (k sl:Int) (tg:Root) (mb:Int) (bd:Nat) (bits:List Bool):(plainW k sl tg mb bd bits).length≤47+bits.length:=by
 have h1:=plainW_len k sl tg mb bd bits
 have h2:=bodyW_le k mb bd bits
 omega
theorem fill_m4 (k sl:Int) (tg:Root) (mb:Int):fill2 [(0,1),(1,1),(2,32),(34,1),(35,1),(36,1),(37,16)] (msgC Msg.zero) [(0,.int .i64 k),(1,.int .i64 sl),(2,.agg (rootC tg).toArray),(3,.int .i64 mb)]=msgC ⟨k,sl,tg,mb,0,⟨none,0,0⟩,Tag.zero⟩ :=
 (msgC_b0 _ _ _).trans ((msgC_b1 _ _ _).trans ((msgC_b2 _ _ _).trans ((msgC_b3 _ _ _).trans rfl)))
theorem o3_len {k:Int} {bits:List Bool} {n:Nat} (h:bits.length≤n):(o3 k [] bits).length≤n:=by unfold o3;split<;>simp [h]
theorem o3_lt {k:Int} {bd n:Nat} (h:bd<n):o3 k 0 bd<n:=by unfold o3;split<;>omega
theorem o3_rds {w0:World} {l:List HProp} {k:Int} {bo:Option Addr} {bits:List Bool} (h:Rds w0 l encBool bo bits):Rds w0 l encBool (o3 k none bo) (o3 k [] bits):=by
 unfold o3
 split
 ·exact rds_nil _
 ·exact h
theorem Speakers_calls {w0 w:World} {l:List HProp} (ao:Option Addr) (c:Nat) (xs:List Val) (n1 n2 n3 n4 n5 n6 n7 n8 n9 n10 n11:Int) (k sl:Int) (tg:Root) (mb:Int) (bd:Nat) (bo:Option Addr) (bc:Nat) (bits:List Bool) (tag:Tag) (hs:Sat w0 w (l)) (h2:1≤n2∧n2≤16∧n2≤xs.length) (hx:1≤xs.length∧xs.length≤64) (hr:Rds w0 l encVal ao xs) (hb:Rds w0 l encBool bo bits) (hyl:bits.length≤1000) (hbd:bd<18446744073709551616) :
  Calls Tryz.prog 74 #[.agg (cfgC ⟨⟨ao,xs.length,c⟩,n1,n2,n3,n4,n5,n6,n7,n8,n9,n10,n11⟩).toArray,.agg (msgC ⟨k,sl,tg,mb,bd,⟨bo,bits.length,bc⟩,tag⟩).toArray] w (Ret w0 fun v l'=>∃ a2 c2,v=.tuple #[.slice a2 (spk xs.length n2 k sl mb bd bits).1.length c2,.bool (spk xs.length n2 k sl mb bd bits).2]∧l'=Row 3 encI64 (.slice a2 (spk xs.length n2 k sl mb bd bits).1.length c2) (spk xs.length n2 k sl mb bd bits).1::l):=by
 refine calls_enter Tryz.func74 rfl rfl rfl hs ?_
 refine Z1s ?_;intro bx1 bx2
 refine R8 ?_
 refine oi (os_call cb_121 rfl (fun w s=>WGood_calls _ _ _ _ _ _ _ _ _  s ((hb.cons _).cons _) (by omega) (by omega))) ?_;rintro _ _ ⟨rfl,rfl⟩
 refine R4 ?_
 refine Z4 ?_ ?_
 ·intro hb1 hp1
  have hsp:(spk xs.length n2 k sl mb bd bits)=([],false):=spk_bad (by simpa using hb1)
  refine R8 ?_
  rw [hsp]
  exact Z42
 intro hb1 hp1
 have hgw:goodW k sl mb bd bits=true:=by simpa using hb1
 have hgi:=goodW_iff.1 hgw
 refine R2 ?_
 refine Z3w ?_
 refine R4 ?_
 refine Z4 ?_ ?_
 ·intro hb2 hp2
  have hk3:k=3:=by simpa using hb2
  have hsp:(spk xs.length n2 k sl mb bd bits)=pickM (memI xs.length sl n2) bits:=spk_sum hgw hk3
  refine R3 ?_
  refine Z5k ?_
  refine R1 ?_
  refine Z7x ?_
  refine oi (os_call cb_122 rfl (fun w s=>Pick_calls _ _ _ _ _ _ _ _ _ _ _ _ _ _ _ _ _ _  s (by have:=goodW_iff.1 hgw;omega) (by omega) (by omega) ((hr.cons _).cons _) ((hb.cons _).cons _) (by omega))) ?_;rintro _ _ ⟨ka2,kc2,rfl,rfl⟩
  refine R9 ?_
  rw [hsp]
  exact px_ret2 rfl (v1:=.slice _ _ _) (v2:=.bool _) rfl rfl (fun _ s=>((s.del 2).del 1)) ⟨_,_,rfl,rfl⟩
 intro hb2 hp2
 have hk3:k≠3:=by simpa using hb2
 have hsp0:=spk_one (n:=xs.length) (n2:=n2) hgw hk3
 refine R2 ?_
 refine Zo ?_
 refine R1 ?_
 refine rg_q (wn_none rfl) (op_ld 0 sc_3 rfl rfl (show (msgC _).toArray[0]? = some (.int .i64 k) from msgC_a0 _)) rfl rfl ?_
 refine R2 ?_
 refine rgs 26 rfl ?_ ?_
 ·intro hb3 hp3
  have hk1:k=1:=by simpa using hb3
  refine rg_q (wn_some rfl rfl rfl hb3 rfl) (op_lda (L:=cfgC _) 1 ag_24 rfl rfl (cfgC_ta _) (by simp [cfgC_len])) rfl rfl ?_
  refine rg_q (wn_some rfl rfl rfl hb3 rfl) (op_field fld_46_1 rfl) rfl rfl ?_
  refine rg_q (wn_some rfl rfl rfl hb3 rfl) (op_ld 0 sc_3 rfl rfl (show (msgC _).toArray[1]? = some (.int .i64 sl) from msgC_a1 _)) rfl rfl ?_
  refine rg_soft (wn_some rfl rfl rfl hb3 rfl) cb_123 ci_123 (fun M=>os_call cb_123 rfl (fun w s=>Proposer_calls _ _ _ _ _ _ _ _ _ _ _ _ _ _ _  s (by omega) (by omega) (by omega) (((hr.tl _).cons _).cons _))) ?_
  refine rg_q (wn_some rfl rfl rfl hb3 rfl) (op_field fld_46_3 rfl) rfl rfl ?_
  refine rg_q (wn_some rfl rfl rfl hb3 rfl) (op_ld 0 sc_3 rfl rfl (show (msgC _).toArray[34]? = some (.int .i64 mb) from msgC_a34 _)) rfl rfl ?_
  refine rg_q (wn_some rfl rfl rfl hb3 rfl) (op_ne rfl rfl) rfl rfl ?_
  refine rg_q (wn_none rfl) (op_pick_t (v:=.bool _) rfl hb3 rfl) rfl rfl ?_
  refine Z1z ?_
  refine Z4 ?_ ?_
  ·intro hb4 hp4
   have hsp:(spk xs.length n2 k sl mb bd bits)=([],false):=by rw [hsp0,if_pos (.inr ⟨hk1,by simpa using hb4⟩)]
   refine R2 ?_
   refine cd_cond_t rfl hb4 ?_
   refine R8 ?_
   rw [hsp]
   exact Z42
  intro hb4 hp4
  have hhd:(memI xs.length sl n2).headD (-1)=mb:=by simpa using hb4
  refine R3 ?_
  refine Z5k ?_
  refine R1 ?_
  refine Z3i ?_
  refine Zbe ?_
  refine R4 ?_
  refine Z4 ?_ ?_
  ·intro hb5 hp5
   have hsp:(spk xs.length n2 k sl mb bd bits)=([],false):=by rw [hsp0,if_pos (.inl (idxI_lt.1 (of_decide_eq_true hb5)))]
   refine R8 ?_
   rw [hsp]
   exact Z42
  intro hb5 hp5
  have hsp:(spk xs.length n2 k sl mb bd bits)=([mb],true):=by rw [hsp0,if_neg (by rintro (h | ⟨h,h'⟩);exact (of_decide_eq_false hb5) (idxI_lt.2 h);exact h' hhd)]
  refine R5 ?_
  refine Z3i ?_
  refine Z4k ?_;intro ao1
  refine R5 ?_
  rw [hsp]
  exact Z5z
 intro hb3 hp3
 have hk1:k≠1:=by simpa using hb3
 refine Z51 ?_
 refine Z51 ?_
 refine Z51 ?_
 refine Z51 ?_
 refine Z51 ?_
 refine Z51 ?_
 refine Z51 ?_
 refine rg_q (wn_none rfl) (op_pick_f (v:=.bool _) rfl hb3 rfl) rfl rfl ?_
 refine Z1z ?_
 refine Z23 ?_
 refine R3 ?_
 refine Z5k ?_
 refine R1 ?_
 refine Z3i ?_
 refine Zbe ?_
 refine R4 ?_
 refine Z4 ?_ ?_
 ·intro hb6 hp6
  have hsp:(spk xs.length n2 k sl mb bd bits)=([],false):=by rw [hsp0,if_pos (.inl (idxI_lt.1 (of_decide_eq_true hb6)))]
  refine R8 ?_
  rw [hsp]
  exact Z42
 intro hb6 hp6
 have hsp:(spk xs.length n2 k sl mb bd bits)=([mb],true):=by rw [hsp0,if_neg (by rintro (h | ⟨h,h'⟩);exact (of_decide_eq_false hb6) (idxI_lt.2 h);exact hk1 h)]
 refine R5 ?_
 refine Z3i ?_
 refine Z4k ?_;intro ao2
 refine R5 ?_
 rw [hsp]
 exact Z5z
theorem RSpeakers_calls {w0 w:World} {l:List HProp} (ao:Option Addr) (c:Nat) (xs:List Val) (n1 n2 n3 n4 n5 n6 n7 n8 n9 n10 n11:Int) (k sl:Int) (tg:Root) (mb:Int) (bd:Nat) (bo:Option Addr) (bc:Nat) (bits:List Bool) (tag:Tag) (hs:Sat w0 w (l)) (h2:1≤n2∧n2≤16∧n2≤xs.length) (hx:1≤xs.length∧xs.length≤64) (hr:Rds w0 l encVal ao xs) (hb:Rds w0 l encBool bo bits) (hyl:bits.length≤1000) (hbd:bd<18446744073709551616) :
  Calls Tryz.prog 80 #[.agg (cfgC ⟨⟨ao,xs.length,c⟩,n1,n2,n3,n4,n5,n6,n7,n8,n9,n10,n11⟩).toArray,.agg (msgC ⟨k,sl,tg,mb,bd,⟨bo,bits.length,bc⟩,tag⟩).toArray] w (Ret w0 fun v l'=>∃ a2 c2,v=.tuple #[.slice a2 (spk xs.length n2 k sl mb bd bits).1.length c2,.bool (spk xs.length n2 k sl mb bd bits).2]∧l'=Row 3 encI64 (.slice a2 (spk xs.length n2 k sl mb bd bits).1.length c2) (spk xs.length n2 k sl mb bd bits).1::l):=by
 refine calls_enter Tryz.func80 rfl rfl rfl hs ?_
 refine Z1s ?_;intro bx1 bx2
 refine R7 ?_
 refine oi (os_call cb_126 rfl (fun w s=>WRGood_calls _ _ _ _ _ _ _ _ _  s ((hb.cons _).cons _) (by omega) (by omega))) ?_;rintro _ _ ⟨rfl,rfl⟩
 refine Z6 ?_ ?_
 ·intro hb1 hp1
  have hsp:(spk xs.length n2 k sl mb bd bits)=([],false):=spk_bad (by simpa using hb1)
  refine R7 ?_
  rw [hsp]
  exact Z42
 intro hb1 hp1
 have hgw:goodW k sl mb bd bits=true:=by simpa using hb1
 have hgi:=goodW_iff.1 hgw
 refine R5 ?_
 refine Z3w ?_
 refine Z6 ?_ ?_
 ·intro hb2 hp2
  have hk3:k=3:=by simpa using hb2
  have hsp:(spk xs.length n2 k sl mb bd bits)=pickM (memI xs.length sl n2) bits:=spk_sum hgw hk3
  refine R3 ?_
  refine Z5k ?_
  refine R1 ?_
  refine Z7x ?_
  refine oi (os_call cb_127 rfl (fun w s=>RPick_calls _ _ _ _ _ _ _ _ _ _ _ _ _ _ _ _ _ _  s (by have:=goodW_iff.1 hgw;omega) (by omega) (by omega) ((hr.cons _).cons _) ((hb.cons _).cons _) (by omega))) ?_;rintro _ _ ⟨ka2,kc2,rfl,rfl⟩
  refine R8 ?_
  rw [hsp]
  exact px_ret2 rfl (v1:=.slice _ _ _) (v2:=.bool _) rfl rfl (fun _ s=>((s.del 2).del 1)) ⟨_,_,rfl,rfl⟩
 intro hb2 hp2
 have hk3:k≠3:=by simpa using hb2
 have hsp0:=spk_one (n:=xs.length) (n2:=n2) hgw hk3
 refine R5 ?_
 refine Z5k ?_
 refine R1 ?_
 refine Z3i ?_
 refine oi (os_call cb_128 rfl (fun w s=>RPlace_calls _ _ _ _ _ _ _ _ _ _ _ _ _ _ _ _  s (by omega) (by omega) (by omega) ((hr.cons _).cons _))) ?_;rintro _ _ ⟨rfl,rfl⟩
 refine R8 ?_
 refine ols 29 rfl ?_ ?_
 ·intro hb3 hp3
  have hsp:(spk xs.length n2 k sl mb bd bits)=([],false):=by rw [hsp0,if_pos (.inl (idxI_lt.1 (of_decide_eq_true hb3)))]
  refine Z1b ?_
  refine Z1b ?_
  refine Z47 ?_
  refine Z4u ?_
  refine Z25 ?_
  refine Zh ?_
  refine R7 ?_
  rw [hsp]
  exact Z42
 intro hb3 hp3
 have hmem:mb∈(memI xs.length sl n2):=Classical.byContradiction fun h=>(of_decide_eq_false hb3) (idxI_lt.2 h)
 refine ol_q (wn_some rfl rfl rfl hb3 rfl) (op_field fld_46_0 rfl) rfl ?_
 refine ol_q (wn_some rfl rfl rfl hb3 rfl) (op_ld 0 sc_3 rfl rfl (show (msgC _).toArray[0]? = some (.int .i64 k) from msgC_a0 _)) rfl ?_
 refine ol_q (wn_some rfl rfl rfl hb3 rfl) (op_eq rfl rfl) rfl ?_
 refine ol_q (wn_some rfl rfl rfl hb3 rfl) (op_move (v:=.bool _) rfl) rfl ?_
 refine ols 33 rfl ?_ ?_
 ·intro hb4 hp4
  have hk1:k=1:=by simpa using hb4
  refine ol_q (wn_some rfl rfl rfl hb4 rfl) (op_move (v:=.int _ _) rfl) rfl ?_
  refine ol_q (wn_some rfl rfl rfl hb4 rfl) (op_gt rfl rfl) rfl ?_
  refine ol_q (wn_some rfl rfl rfl hb3 rfl) (op_pick_t (v:=.bool _) rfl hb4 rfl) rfl ?_
  refine Z1v ?_
  refine Z8 ?_ ?_
  ·intro hb5 hp5
   have hsp:(spk xs.length n2 k sl mb bd bits)=([],false):=by rw [hsp0,if_pos (.inr ⟨hk1,(idxI_pos hmem).1 (of_decide_eq_true hb5)⟩)]
   refine R7 ?_
   rw [hsp]
   exact Z42
  intro hb5 hp5
  have hsp:(spk xs.length n2 k sl mb bd bits)=([mb],true):=by rw [hsp0,if_neg (by rintro (h | ⟨h,h'⟩);exact h hmem;exact (of_decide_eq_false hb5) ((idxI_pos hmem).2 h'))]
  refine R4 ?_
  refine Z3i ?_
  refine Z4k ?_;intro ao1
  refine R5 ?_
  rw [hsp]
  exact Z5z
 intro hb4 hp4
 have hk1:k≠1:=by simpa using hb4
 have hsp:(spk xs.length n2 k sl mb bd bits)=([mb],true):=by rw [hsp0,if_neg (by rintro (h | ⟨h,h'⟩);exact h hmem;exact hk1 h)]
 refine Z28 ?_
 refine Z28 ?_
 refine ol_q (wn_some rfl rfl rfl hb3 rfl) (op_pick_f (v:=.bool _) rfl hb4 rfl) rfl ?_
 refine Z1v ?_
 refine Zi ?_
 refine R4 ?_
 refine Z3i ?_
 refine Z4k ?_;intro ao2
 refine R5 ?_
 rw [hsp]
 exact Z5z
theorem One_calls {w0 w:World} {l:List HProp} (k sl:Int) (tg:Root) (mb:Int) (bd:Nat) (bo:Option Addr) (bc:Nat) (bits:List Bool) (tag:Tag) (who:Int) (hs:Sat w0 w (l))  :
  Calls Tryz.prog 187 #[.agg (msgC ⟨k,sl,tg,mb,bd,⟨bo,bits.length,bc⟩,tag⟩).toArray,.int .i64 who] w (Ret w0 fun v l'=>v=.agg (msgC ⟨o3 k 2 k,sl,tg,o3 k who mb,o3 k 0 bd,⟨o3 k none bo,(o3 k [] bits).length,o3 k 0 bc⟩,o3 k Tag.zero tag⟩).toArray∧l'=l):=by
 refine calls_enter Tryz.func187 rfl rfl rfl hs ?_
 refine Z5 ?_;intro bx1
 refine Z3x ?_;intro bx2
 refine R5 ?_
 refine Z4e ?_
 refine Z6 ?_ ?_
 ·intro hb1 hp1
  have hk3:k=3:=by simpa using hb1
  refine R2 ?_
  refine oq (op_ld 1 sc_3 rfl rfl (show (msgC _).toArray[1]? = some (.int .i64 sl) from msgC_a1 _)) ?_
  refine R3 ?_
  refine oq (op_build (L:=msgC ⟨2,sl,tg,who,0,⟨none,0,0⟩,Tag.zero⟩) (vs:=[(0,.int _ _),(1,.int _ _),(2,.agg (rootC _).toArray),(3,.int _ _)]) bB_46 rfl ⟨⟨rfl,by rw [msgC_len];rfl⟩,⟨rfl,by rw [msgC_len];rfl⟩,⟨by simp [Value.cells,rootC_len],by rw [msgC_len];rfl⟩,⟨rfl,by rw [msgC_len];rfl⟩,trivial⟩ (fill_m4 _ _ _ _)) ?_
  refine Z17 ?_
  refine R4 ?_
  exact px_rv1 rfl (rv_cella 0 ag_46 rfl rfl (msgC_ta _) (by simp [msgC_len])) (fun _ s=>((s.del 1).del 0)) ⟨by simp only [o3_y hk3,List.length_nil],rfl⟩
 intro hb1 hp1
 have hk3:k≠3:=by simpa using hb1
 refine R4 ?_
 refine Z17 ?_
 refine R3 ?_
 exact px_rv1 rfl (rv_cella 0 ag_46 rfl rfl (msgC_ta _) (by simp [msgC_len])) (fun _ s=>((s.del 1).del 0)) ⟨by simp only [o3_n hk3],rfl⟩
theorem Tag_calls {w0 w:World} {l:List HProp} (ao:Option Addr) (c:Nat) (xs:List Val) (n1 n2 n3 n4 n5 n6 n7 n8 n9 n10 n11:Int) (k sl:Int) (tg:Root) (mb:Int) (bd:Nat) (bo:Option Addr) (bc:Nat) (bits:List Bool) (tag:Tag) (hs:Sat w0 w (l)) (h2:1≤n2∧n2≤16∧n2≤xs.length) (hx:1≤xs.length∧xs.length≤64) (hr:Rds w0 l encVal ao xs) (hb:Rds w0 l encBool bo bits) (hyl:bits.length≤1000) (hbd:bd<18446744073709551616) (hkx:∀ y∈xs,y.key.length≤32) :
  Calls Tryz.prog 166 #[.agg (cfgC ⟨⟨ao,xs.length,c⟩,n1,n2,n3,n4,n5,n6,n7,n8,n9,n10,n11⟩).toArray,.agg (msgC ⟨k,sl,tg,mb,bd,⟨bo,bits.length,bc⟩,tag⟩).toArray] w (Ret w0 fun v l'=>v=.tuple #[.agg (tagC (tagM xs n2 k sl tg mb bd bits).1).toArray,.bool (tagM xs n2 k sl tg mb bd bits).2]∧l'=l):=by
 refine calls_enter Tryz.func166 rfl rfl rfl hs ?_
 refine Z1s ?_;intro bx1 bx2
 refine Z2f ?_;intro bx3
 refine R6 ?_
 refine oi (os_call cb_74 rfl (fun w s=>Speakers_calls _ _ _ _ _ _ _ _ _ _ _ _ _ _ _ _ _ _ _ _ _ _ _  s (by omega) (by omega) (((hr.cons _).cons _).cons _) (((hb.cons _).cons _).cons _) (by omega) (by omega))) ?_;rintro _ _ ⟨sa1,sc1,rfl,rfl⟩
 refine R13 ?_
 refine Z4 ?_ ?_
 ·intro hb1 hp1
  have hok:(spk xs.length n2 k sl mb bd bits).2=false:=by simpa using hb1
  have htm:(tagM xs n2 k sl tg mb bd bits)=(Tag.zero,false):=by unfold tagM;rw [hok];rfl
  refine R1 ?_
  refine oq (op_buildt rfl tB_44 zBt_44) ?_
  refine Z2 ?_
  refine Z3o ?_
  refine R5 ?_
  rw [htm]
  exact Z9y
 intro hb1 hp1
 have hok:(spk xs.length n2 k sl mb bd bits).2=true:=by simpa using hb1
 obtain ⟨hgw,hon⟩:=spk_ok hok
 have hgi:=goodW_iff.1 hgw
 have htm:(tagM xs n2 k sl tg mb bd bits)=(joinM ((spk xs.length n2 k sl mb bd bits).1.map (tgF xs k sl tg mb bd bits)),true):=by unfold tagM;rw [if_pos hok]
 have hsl:=spk_len (k:=k) (sl:=sl) (mb:=mb) (bd:=bd) (ys:=bits) h2
 refine R9 ?_
 refine Z33 ?_
 refine cd_imp (fun _ s=>Sat.rowNil (E:=encTag) (e:=44) s) ?_
 refine cd_loop2 (α:=Nat×Option Addr×Nat) [(8,8),(10,10),(22,41)] (fun x=>[(8,.slice x.2.1 (((spk xs.length n2 k sl mb bd bits).1.take x.1).map (tgF xs k sl tg mb bd bits)).length x.2.2),(22,.int .i64 (x.1:Int))]) (fun x=>Row 44 encTag (.slice x.2.1 (((spk xs.length n2 k sl mb bd bits).1.take x.1).map (tgF xs k sl tg mb bd bits)).length x.2.2) (((spk xs.length n2 k sl mb bd bits).1.take x.1).map (tgF xs k sl tg mb bd bits))::Row 3 encI64 (.slice sa1 (spk xs.length n2 k sl mb bd bits).1.length sc1) (spk xs.length n2 k sl mb bd bits).1::Blk bx3 (.cells (tagC Tag.zero).toArray 44 (0,0))::Blk bx2 (.cells (msgC ⟨k,sl,tg,mb,bd,⟨bo,bits.length,bc⟩,tag⟩).toArray 46 (0,0))::Blk bx1 (.cells (cfgC ⟨⟨ao,xs.length,c⟩,n1,n2,n3,n4,n5,n6,n7,n8,n9,n10,n11⟩).toArray 24 (0,0))::l) (fun x=>x.1≤(spk xs.length n2 k sl mb bd bits).1.length) (fun x=>(spk xs.length n2 k sl mb bd bits).1.length-x.1) (0,none,0) (Nat.zero_le _) ⟨rfl,rfl,trivial⟩ (fun _ s=>s) ?_
 rintro ⟨i,b1,d1⟩ hi f;(try dsimp only at hi ⊢)
 refine Z3 ?_ ?_
 ·intro hb2 hp2
  have hi1:i<(spk xs.length n2 k sl mb bd bits).1.length:=by omega
  obtain ⟨q,hq,hql⟩:∃ q:Nat,(spk xs.length n2 k sl mb bd bits).1[i]=(q:Int)∧q<xs.length:=by
   have h:=memI_lt h2.2.2 (spk_mem (List.getElem_mem hi1))
   exact ⟨(spk xs.length n2 k sl mb bd bits).1[i].toNat,by omega,by omega⟩
  have hkl:=hkx xs[q] (List.getElem_mem hql)
  have e1:(((spk xs.length n2 k sl mb bd bits).1.take i).map (tgF xs k sl tg mb bd bits))++[macM xs[q].key [(plainW (o3 k 2 k) sl tg (o3 k (spk xs.length n2 k sl mb bd bits).1[i] mb) (o3 k 0 bd) (o3 k [] bits))].flatten]=(((spk xs.length n2 k sl mb bd bits).1.take (i+1)).map (tgF xs k sl tg mb bd bits)):=by rw [List.take_succ_eq_append_getElem hi1,List.map_append,List.map_singleton];unfold tgF;rw [hq,keyAt_get hql,List.flatten_cons,List.flatten_nil,List.append_nil]
  have hbl:=o3_len (k:=k) hyl
  have hpl:=plainW_le (o3 k 2 k) sl tg (o3 k (spk xs.length n2 k sl mb bd bits).1[i] mb) (o3 k 0 bd) (o3 k [] bits)
  refine R5 ?_
  refine Z8b ?_
  refine Z74 ?_
  refine R3 ?_
  refine cd_drawe (M:=[_]) mx [10,11,12,13,14] ?_
  refine Z7k ?_
  refine Zca ?_
  refine Z6h ?_
  refine e_q 4 rfl (wn_none rfl) (op_index q sB_22 rfl rfl hq ((((hr.cons _).cons _).cons _).cons _) rfl (by omega)) ?_
  refine Zc7 ?_
  refine e_q 7 rfl (wn_none rfl) (op_lda (L:=msgC _) 2 ag_46 rfl rfl (msgC_ta _) (by simp [msgC_len])) ?_
  refine Z7o ?_
  refine e_soft 9 rfl (wn_none rfl) cb_187 ci_187 (fun M=>os_call cb_187 rfl (fun w s=>One_calls _ _ _ _ _ _ _ _ _ _  s )) ?_
  refine Z1c ?_
  refine ei_i rfl rfl (wn_none rfl) (os_call cb_167 rfl (fun w s=>Plain_calls _ _ _ _ _ _ _ _ _  s (o3_rds (((((hb.cons _).cons _).cons _).cons _).cons _)) (by omega) (o3_lt hbd))) rfl ?_;rintro _ _ ⟨rfl,rfl⟩;refine ⟨[_],rfl,?_⟩
  refine Z2b ?_
  refine ei_i rfl rfl (wn_none rfl) (os_bslice (E:=encStr) [_] (ys:=[(plainW (o3 k 2 k) sl tg (o3 k (spk xs.length n2 k sl mb bd bits).1[i] mb) (o3 k 0 bd) (o3 k [] bits))]) sB_37 zv_9 rfl rfl rfl rfl (by decide)) rfl ?_;rintro _ _ ⟨ao1,rfl,rfl⟩;refine ⟨[_,_],rfl,?_⟩
  refine Zj ?_
  refine ei_i rfl rfl (wn_none rfl) (os_call cb_186 rfl (fun w s=>Mac_calls _ _ _ _  s (rds_row 0 rfl rfl) (by simp only [List.flatten_cons,List.flatten_nil,List.append_nil];omega) (by show 1≤100000;omega) (by omega))) rfl ?_;rintro _ _ ⟨rfl,rfl⟩;refine ⟨[_,_],rfl,?_⟩
  refine Z1a ?_
  refine ei_i rfl rfl (wn_none rfl) (os_bslice (E:=encTag) [_] (ys:=[_]) sB_175 zv_44 rfl rfl rfl rfl (by decide)) rfl ?_;rintro _ _ ⟨ao2,rfl,rfl⟩;refine ⟨[_,_,_],rfl,?_⟩
  refine Z3h ?_
  refine ei_i rfl rfl (wn_none rfl) (os_pull2 (os_append (E:=encTag) rfl sB_175 zv_44 rfl rfl rfl (fun w s=>(rds_row 1 rfl rfl) [] w s) rfl (by rw [List.length_map,List.length_take];simp;omega) (by unfold maxLen;rw [List.length_map,List.length_take];simp;omega))) rfl ?_;rintro _ _ ⟨ao3,ac3,rfl,rfl⟩;refine ⟨[_,_,_],rfl,?_⟩
  refine e_q 15 rfl (wn_none rfl) (op_assign (v:=.slice _ _ _) rfl) ?_
  refine Z7g ?_
  refine px_loop2 (i+1,ao3,ac3) (by (try dsimp only);omega) (by (try dsimp only);omega) ⟨congrArg (fun q=>Value.slice ao3 (List.length q) ac3) e1,congrArg (Value.int .i64) (by simp),trivial⟩ ?_ (fun _ s=>(by (try dsimp only);rw [←e1];exact ((s.del 2).del 1)))
  exact Z0
 intro hb2 hp2
 obtain rfl:i=(spk xs.length n2 k sl mb bd bits).1.length:=by omega
 rw [List.take_length]
 refine R7 ?_
 refine oi (os_call cb_188 rfl (fun w s=>Join_calls _ _ _  s (rds_row 0 rfl rfl) (by rw [List.length_map];omega))) ?_;rintro _ _ ⟨rfl,rfl⟩
 refine Z7 ?_
 refine Z3o ?_
 refine R4 ?_
 rw [htm]
 exact Zbf
theorem Check_calls {w0 w:World} {l:List HProp} (ao:Option Addr) (c:Nat) (xs:List Val) (n1 n2 n3 n4 n5 n6 n7 n8 n9 n10 n11:Int) (k sl:Int) (tg:Root) (mb:Int) (bd:Nat) (bo:Option Addr) (bc:Nat) (bits:List Bool) (tag:Tag) (hs:Sat w0 w (l)) (h2:1≤n2∧n2≤16∧n2≤xs.length) (hx:1≤xs.length∧xs.length≤64) (hr:Rds w0 l encVal ao xs) (hb:Rds w0 l encBool bo bits) (hyl:bits.length≤1000) (hbd:bd<18446744073709551616) (hkx:∀ y∈xs,y.key.length≤32) :
  Calls Tryz.prog 132 #[.agg (cfgC ⟨⟨ao,xs.length,c⟩,n1,n2,n3,n4,n5,n6,n7,n8,n9,n10,n11⟩).toArray,.agg (msgC ⟨k,sl,tg,mb,bd,⟨bo,bits.length,bc⟩,tag⟩).toArray] w (Ret w0 fun v l'=>v=.bool ((tagM xs n2 k sl tg mb bd bits).2 && decide ((tagM xs n2 k sl tg mb bd bits).1=tag))∧l'=l):=by
 refine calls_enter Tryz.func132 rfl rfl rfl hs ?_
 refine Z1s ?_;intro bx1 bx2
 refine R6 ?_
 refine oi (os_call cb_166 rfl (fun w s=>Tag_calls _ _ _ _ _ _ _ _ _ _ _ _ _ _ _ _ _ _ _ _ _ _ _  s (by omega) (by omega) ((hr.cons _).cons _) ((hb.cons _).cons _) (by omega) (by omega) (by assumption))) ?_;rintro _ _ ⟨rfl,rfl⟩
 refine R3 ?_
 refine Z2f ?_;intro bx3
 refine Z3o ?_
 refine R6 ?_
 refine ols 14 rfl ?_ ?_
 ·intro hb1 hp1
  have hok:(tagM xs n2 k sl tg mb bd bits).2=true:=by simpa using hb1
  refine ol_q (wn_some rfl rfl rfl hb1 rfl) (op_lda (L:=tagC _) 0 ag_44 rfl rfl (tagC_take' _) (by simp [tagC_len])) rfl ?_
  refine ol_q (wn_some rfl rfl rfl hb1 rfl) (op_field fld_46_6 rfl) rfl ?_
  refine ol_q (wn_some rfl rfl rfl hb1 rfl) (op_lda (L:=tagC _) 1 ag_44 rfl rfl (msgC_af37 _) (by simp [msgC_len])) rfl ?_
  refine ol_q (wn_some rfl rfl rfl hb1 rfl) (op_eqtag _ _ tB_44 rfl rfl) rfl ?_
  refine Zq ?_
  refine R4 ?_
  exact px_ret1 rfl (v:=.bool _) rfl (fun _ s=>(((s.del 2).del 1).del 0)) ⟨congrArg Value.bool (by rw [hok];first | rfl | simp),rfl⟩
 intro hb1 hp1
 have hok:(tagM xs n2 k sl tg mb bd bits).2=false:=by simpa using hb1
 refine Z2n ?_
 refine Zf ?_
 refine R4 ?_
 exact px_ret1 rfl (v:=.bool _) rfl (fun _ s=>(((s.del 2).del 1).del 0)) ⟨congrArg Value.bool (by rw [hok];first | rfl | simp),rfl⟩
theorem RTag_calls {w0 w:World} {l:List HProp} (ao:Option Addr) (c:Nat) (xs:List Val) (n1 n2 n3 n4 n5 n6 n7 n8 n9 n10 n11:Int) (k sl:Int) (tg:Root) (mb:Int) (bd:Nat) (bo:Option Addr) (bc:Nat) (bits:List Bool) (tag:Tag) (hs:Sat w0 w (l)) (h2:1≤n2∧n2≤16∧n2≤xs.length) (hx:1≤xs.length∧xs.length≤64) (hr:Rds w0 l encVal ao xs) (hb:Rds w0 l encBool bo bits) (hyl:bits.length≤1000) (hbd:bd<18446744073709551616) (hkx:∀ y∈xs,y.key.length≤32) :
  Calls Tryz.prog 36 #[.agg (cfgC ⟨⟨ao,xs.length,c⟩,n1,n2,n3,n4,n5,n6,n7,n8,n9,n10,n11⟩).toArray,.agg (msgC ⟨k,sl,tg,mb,bd,⟨bo,bits.length,bc⟩,tag⟩).toArray] w (Ret w0 fun v l'=>v=.tuple #[.agg (tagC (tagM xs n2 k sl tg mb bd bits).1).toArray,.bool (tagM xs n2 k sl tg mb bd bits).2]∧l'=l):=by
 refine calls_enter Tryz.func36 rfl rfl rfl hs ?_
 refine Z1s ?_;intro bx1 bx2
 refine Z2f ?_;intro bx3
 refine R6 ?_
 refine oi (os_call cb_80 rfl (fun w s=>RSpeakers_calls _ _ _ _ _ _ _ _ _ _ _ _ _ _ _ _ _ _ _ _ _ _ _  s (by omega) (by omega) (((hr.cons _).cons _).cons _) (((hb.cons _).cons _).cons _) (by omega) (by omega))) ?_;rintro _ _ ⟨sa1,sc1,rfl,rfl⟩
 refine R13 ?_
 refine Z4 ?_ ?_
 ·intro hb1 hp1
  have hok:(spk xs.length n2 k sl mb bd bits).2=false:=by simpa using hb1
  have htm:(tagM xs n2 k sl tg mb bd bits)=(Tag.zero,false):=by unfold tagM;rw [hok];rfl
  refine R1 ?_
  refine oq (op_buildt rfl tB_44 zBt_44) ?_
  refine Z2 ?_
  refine Z3o ?_
  refine R5 ?_
  rw [htm]
  exact Z9y
 intro hb1 hp1
 have hok:(spk xs.length n2 k sl mb bd bits).2=true:=by simpa using hb1
 obtain ⟨hgw,hon⟩:=spk_ok hok
 have hgi:=goodW_iff.1 hgw
 have htm:(tagM xs n2 k sl tg mb bd bits)=(joinM ((spk xs.length n2 k sl mb bd bits).1.map (tgF xs k sl tg mb bd bits)),true):=by unfold tagM;rw [if_pos hok]
 have hsl:=spk_len (k:=k) (sl:=sl) (mb:=mb) (bd:=bd) (ys:=bits) h2
 refine R5 ?_
 refine oq (op_ld 2 sc_3 rfl rfl (show (msgC _).toArray[0]? = some (.int .i64 k) from msgC_a0 _)) ?_
 refine Z6 ?_ ?_
 ·intro hb2 hp2
  have hk3:k≠3:=by simpa using hb2
  obtain ⟨hs1,hmem⟩:=hon hk3
  obtain ⟨q,hq,hql⟩:∃ q:Nat,mb=(q:Int)∧q<xs.length:=by
   have h:=memI_lt h2.2.2 hmem
   exact ⟨mb.toNat,by omega,by omega⟩
  have hkl:=hkx xs[q] (List.getElem_mem hql)
  have htq:joinM ((spk xs.length n2 k sl mb bd bits).1.map (tgF xs k sl tg mb bd bits))=macM xs[q].key (plainW k sl tg mb bd bits):=by rw [hs1,List.map_singleton,joinM_one];unfold tgF;simp only [o3_n hk3];rw [hq,keyAt_get hql]
  rw [htq] at htm
  have hpl:=plainW_le k sl tg mb bd bits
  refine R1 ?_
  refine cd_drawt (M:=[]) mx [8,9] 10 (by kernel_rfl) rfl rfl ?_
  dsimp only [List.take_succ_cons,List.take_zero,List.drop_succ_cons,List.drop_zero]
  refine R1 ?_
  refine rg_q (wn_none rfl) (op_ld 3 sc_22 rfl rfl (show (cfgC _).toArray[0]? = some (.slice ao xs.length c) from cfgC_a0 _)) rfl rfl ?_
  refine R1 ?_
  refine rg_q (wn_none rfl) (op_ld 2 sc_3 rfl rfl (show (msgC _).toArray[34]? = some (.int .i64 mb) from msgC_a34 _)) rfl rfl ?_
  refine rg_q (wn_none rfl) (op_index q sB_22 rfl rfl hq ((((hr.cons _).cons _).cons _).cons _) rfl (by omega)) rfl rfl ?_
  refine rg_q (wn_none rfl) (op_fielde fld_64_1 rfl ((((hr.cons _).cons _).cons _).cons _) (by omega)) rfl rfl ?_
  refine rg_q (wn_none rfl) (op_ldf 1 sc_9 ((((hr.cons _).cons _).cons _).cons _) rfl (by omega) rfl (valC_l1 _)) rfl rfl ?_
  refine R1 ?_
  refine rg_i (wn_none rfl) (os_call cb_37 rfl (fun w s=>WRPlain_calls _ _ _ _ _ _ _ _ _  s ((((hb.cons _).cons _).cons _).cons _) (by omega) (by omega) hgw)) rfl rfl ?_;rintro _ l ⟨rfl,rfl⟩;refine ⟨[],rfl,?_⟩
  refine rg_i (wn_none rfl) (os_call cb_81 rfl (fun w s=>RMac_calls _ _  s (by omega) (by omega))) rfl rfl ?_;rintro _ l ⟨rfl,rfl⟩;refine ⟨[],rfl,?_⟩
  refine rg_tail0 ?_
  refine Z2 ?_
  refine Z3o ?_
  refine R5 ?_
  rw [htm]
  exact Z9y
 intro hb2 hp2
 have hk3:k=3:=by simpa using hb2
 refine R9 ?_
 refine Z33 ?_
 refine cd_imp (fun _ s=>Sat.rowNil (E:=encTag) (e:=44) s) ?_
 refine cd_loop2 (α:=Nat×Option Addr×Nat) [(8,8),(10,10),(35,56)] (fun x=>[(8,.slice x.2.1 (((spk xs.length n2 k sl mb bd bits).1.take x.1).map (tgF xs k sl tg mb bd bits)).length x.2.2),(35,.int .i64 (x.1:Int))]) (fun x=>Row 44 encTag (.slice x.2.1 (((spk xs.length n2 k sl mb bd bits).1.take x.1).map (tgF xs k sl tg mb bd bits)).length x.2.2) (((spk xs.length n2 k sl mb bd bits).1.take x.1).map (tgF xs k sl tg mb bd bits))::Row 3 encI64 (.slice sa1 (spk xs.length n2 k sl mb bd bits).1.length sc1) (spk xs.length n2 k sl mb bd bits).1::Blk bx3 (.cells (tagC Tag.zero).toArray 44 (0,0))::Blk bx2 (.cells (msgC ⟨k,sl,tg,mb,bd,⟨bo,bits.length,bc⟩,tag⟩).toArray 46 (0,0))::Blk bx1 (.cells (cfgC ⟨⟨ao,xs.length,c⟩,n1,n2,n3,n4,n5,n6,n7,n8,n9,n10,n11⟩).toArray 24 (0,0))::l) (fun x=>x.1≤(spk xs.length n2 k sl mb bd bits).1.length) (fun x=>(spk xs.length n2 k sl mb bd bits).1.length-x.1) (0,none,0) (Nat.zero_le _) ⟨rfl,rfl,trivial⟩ (fun _ s=>s) ?_
 rintro ⟨i,b1,d1⟩ hi f;(try dsimp only at hi ⊢)
 refine Z3 ?_ ?_
 ·intro hb3 hp3
  have hi1:i<(spk xs.length n2 k sl mb bd bits).1.length:=by omega
  obtain ⟨q,hq,hql⟩:∃ q:Nat,(spk xs.length n2 k sl mb bd bits).1[i]=(q:Int)∧q<xs.length:=by
   have h:=memI_lt h2.2.2 (spk_mem (List.getElem_mem hi1))
   exact ⟨(spk xs.length n2 k sl mb bd bits).1[i].toNat,by omega,by omega⟩
  have hkl:=hkx xs[q] (List.getElem_mem hql)
  have e1:(((spk xs.length n2 k sl mb bd bits).1.take i).map (tgF xs k sl tg mb bd bits))++[macM xs[q].key (plainW 2 sl tg (spk xs.length n2 k sl mb bd bits).1[i] 0 [])]=(((spk xs.length n2 k sl mb bd bits).1.take (i+1)).map (tgF xs k sl tg mb bd bits)):=by rw [List.take_succ_eq_append_getElem hi1,List.map_append,List.map_singleton];unfold tgF;simp only [o3_y hk3];rw [hq,keyAt_get hql]
  have hpl:=plainW_le 2 sl tg (spk xs.length n2 k sl mb bd bits).1[i] 0 []
  rw [List.length_nil] at hpl
  refine R5 ?_
  refine Z8b ?_
  refine Z74 ?_
  refine R3 ?_
  refine cd_drawe (M:=[_]) mx [13,14,15,16] ?_
  refine Z7k ?_
  refine Zca ?_
  refine Z6h ?_
  refine e_q 4 rfl (wn_none rfl) (op_index q sB_22 rfl rfl hq ((((hr.cons _).cons _).cons _).cons _) rfl (by omega)) ?_
  refine Zc7 ?_
  refine e_q 7 rfl (wn_none rfl) (op_field fld_46_1 rfl) ?_
  refine e_q 8 rfl (wn_none rfl) (op_ld 2 sc_3 rfl rfl (show (msgC _).toArray[1]? = some (.int .i64 sl) from msgC_a1 _)) ?_
  refine e_q 9 rfl (wn_none rfl) (op_field fld_46_2 rfl) ?_
  refine e_q 10 rfl (wn_none rfl) (op_lda (L:=rootC _) 2 ag_35 rfl rfl (msgC_af2 _) (by simp [msgC_len])) ?_
  refine e_q 11 rfl (wn_none rfl) (op_move (v:=.int _ _) rfl) ?_
  refine e_q 12 rfl (wn_none rfl) (op_build (L:=msgC ⟨2,sl,tg,(spk xs.length n2 k sl mb bd bits).1[i],0,⟨none,0,0⟩,Tag.zero⟩) (vs:=[(0,.int _ _),(1,.int _ _),(2,.agg (rootC _).toArray),(3,.int _ _)]) bB_46 rfl ⟨⟨rfl,by rw [msgC_len];rfl⟩,⟨rfl,by rw [msgC_len];rfl⟩,⟨by simp [Value.cells,rootC_len],by rw [msgC_len];rfl⟩,⟨rfl,by rw [msgC_len];rfl⟩,trivial⟩ (fill_m4 _ _ _ _)) ?_
  refine Z1a ?_
  refine ei_i rfl rfl (wn_none rfl) (os_call cb_37 rfl (fun w s=>by have q:=WRPlain_calls (k:=2) (sl:=sl) (tg:=tg) (mb:=(spk xs.length n2 k sl mb bd bits).1[i]) (bd:=0) (bo:=none) (bc:=0) (bits:=[]) (tag:=Tag.zero)  s (rds_nil _) (by decide) (by decide) (good_two hgw (by omega));exact q)) rfl ?_;rintro _ _ ⟨rfl,rfl⟩;refine ⟨[_],rfl,?_⟩
  refine Z3h ?_
  refine ei_i rfl rfl (wn_none rfl) (os_call cb_81 rfl (fun w s=>by have q:=RMac_calls (key:=xs[q].key) (s:=plainW 2 sl tg (spk xs.length n2 k sl mb bd bits).1[i] 0 [])  s (by omega) (by omega);exact q)) rfl ?_;rintro _ _ ⟨rfl,rfl⟩;refine ⟨[_],rfl,?_⟩
  refine Z2s ?_
  refine ei_i rfl rfl (wn_none rfl) (os_bslice (E:=encTag) [_] (ys:=[_]) sB_175 zv_44 rfl rfl rfl rfl (by decide)) rfl ?_;rintro _ _ ⟨ao1,rfl,rfl⟩;refine ⟨[_,_],rfl,?_⟩
  refine et_1 (i:=16) (by kernel_rfl) ?_
  refine ei_i rfl rfl (wn_none rfl) (os_pull1 (os_append (E:=encTag) rfl sB_175 zv_44 rfl rfl rfl (fun w s=>(rds_row 1 rfl rfl) [] w s) rfl (by rw [List.length_map,List.length_take];simp;omega) (by unfold maxLen;rw [List.length_map,List.length_take];simp;omega))) rfl ?_;rintro _ _ ⟨ao2,ac2,rfl,rfl⟩;refine ⟨[_,_],rfl,?_⟩
  refine e_q 17 rfl (wn_none rfl) (op_assign (v:=.slice _ _ _) rfl) ?_
  refine Z7g ?_
  refine px_loop2 (i+1,ao2,ac2) (by (try dsimp only);omega) (by (try dsimp only);omega) ⟨congrArg (fun q=>Value.slice ao2 (List.length q) ac2) e1,congrArg (Value.int .i64) (by simp),trivial⟩ ?_ (fun _ s=>(by (try dsimp only);rw [←e1];exact (s.del 1)))
  exact Z0
 intro hb3 hp3
 obtain rfl:i=(spk xs.length n2 k sl mb bd bits).1.length:=by omega
 rw [List.take_length]
 refine R7 ?_
 refine oi (os_call cb_82 rfl (fun w s=>RJoin_calls _ _ _  s (rds_row 0 rfl rfl) (by rw [List.length_map];omega))) ?_;rintro _ _ ⟨rfl,rfl⟩
 refine Z7 ?_
 refine Z3o ?_
 refine R4 ?_
 rw [htm]
 exact Zbf
theorem RSign_calls {w0 w:World} {l:List HProp} (ao:Option Addr) (c:Nat) (xs:List Val) (n1 n2 n3 n4 n5 n6 n7 n8 n9 n10 n11:Int) (k sl:Int) (tg:Root) (mb:Int) (bd:Nat) (bo:Option Addr) (bc:Nat) (bits:List Bool) (tag:Tag) (hs:Sat w0 w (l)) (h2:1≤n2∧n2≤16∧n2≤xs.length) (hx:1≤xs.length∧xs.length≤64) (hr:Rds w0 l encVal ao xs) (hb:Rds w0 l encBool bo bits) (hyl:bits.length≤1000) (hbd:bd<18446744073709551616) (hkx:∀ y∈xs,y.key.length≤32) :
  Calls Tryz.prog 10 #[.agg (cfgC ⟨⟨ao,xs.length,c⟩,n1,n2,n3,n4,n5,n6,n7,n8,n9,n10,n11⟩).toArray,.agg (msgC ⟨k,sl,tg,mb,bd,⟨bo,bits.length,bc⟩,tag⟩).toArray] w (Ret w0 fun v l'=>v=.tuple #[.agg (msgC (if (tagM xs n2 k sl tg mb bd bits).2=true then ⟨k,sl,tg,mb,bd,⟨bo,bits.length,bc⟩,(tagM xs n2 k sl tg mb bd bits).1⟩ else Msg.zero)).toArray,.bool (tagM xs n2 k sl tg mb bd bits).2]∧l'=l):=by
 refine calls_enter Tryz.func10 rfl rfl rfl hs ?_
 refine Z1s ?_;intro bx1 bx2
 refine Z3x ?_;intro bx3
 refine R6 ?_
 refine oi (os_call cb_36 rfl (fun w s=>RTag_calls _ _ _ _ _ _ _ _ _ _ _ _ _ _ _ _ _ _ _ _ _ _ _  s (by omega) (by omega) (((hr.cons _).cons _).cons _) (((hb.cons _).cons _).cons _) (by omega) (by omega) (by assumption))) ?_;rintro _ _ ⟨rfl,rfl⟩
 refine R3 ?_
 refine Z2f ?_;intro bx4
 refine Z3o ?_
 refine R9 ?_
 refine Z4 ?_ ?_
 ·intro hb1 hp1
  have hok:(tagM xs n2 k sl tg mb bd bits).2=false:=by simpa using hb1
  refine R1 ?_
  refine Z3k ?_
  refine Z2 ?_
  refine Z17 ?_
  refine R5 ?_
  exact Zbg
 intro hb1 hp1
 have hok:(tagM xs n2 k sl tg mb bd bits).2=true:=by simpa using hb1
 refine R3 ?_
 refine Z75 ?_
 refine R1 ?_
 refine Z7 ?_
 refine oN (os_storea (L:=tagC _) (L':=msgC _) ag_44 rfl rfl (tagC_len _) (tagC_one _) (by simp [msgC_len]) (Free.zero _) (msgC_p37 _ _)) ?_;rintro _ _ ⟨rfl,rfl⟩
 refine R4 ?_
 refine Z7 ?_
 refine Z17 ?_
 refine R4 ?_
 exact Zbg
def deltasW (a:WAct):List Delta:=⟨nameR a.root,a.n⟩::(if a.more=0 then [] else [⟨nameR a.parent,a.more⟩])
def stepW (s:TreeS×List Int) (a:WAct):TreeS×List Int:=if a.kind=0 then ((s.1.add (nameR a.root) (nameR a.parent) a.slot).2,s.2) else (s.1,(applyO s.1.nodes s.2 (deltasW a)).2)
def t0W:TreeS:=TreeS.new (nameR 0) 0 256
def s0W:TreeS×List Int:=(t0W,growO t0W.nodes.length [])
structure OKW (s:TreeS×List Int):Prop where
  wf:s.1.WF
  le:s.2.length≤s.1.nodes.length
  ow:OwnOK s.2
  pos:0<s.2.length
  first:(s.1.nodes[0]?).map (·.root)=some (nameR 0)
theorem OKW.zero:OKW s0W:=⟨TreeS.WF.new (by decide) (by decide) (by decide) (by decide),by decide,OwnOK.nil.zeros _,by decide,rfl⟩
theorem OKW.step {s:TreeS×List Int} (h:OKW s) (a:WAct):OKW (stepW s a):=by
  unfold stepW
  by_cases hk:a.kind=0
  · rw [if_pos hk]
    obtain ⟨_,xs,e⟩:=s.1.add_most (nameR a.root) (nameR a.parent) a.slot
    refine ⟨h.wf.add _ _ _,?_,h.ow,h.pos,?_⟩
    · dsimp only;rw [e,List.length_append];have:=h.le;omega
    · dsimp only;rw [e,List.getElem?_append_left h.wf.ne];exact h.first
  · rw [if_neg hk]
    exact ⟨h.wf,Nat.le_of_eq (applyO_len h.le _),applyO_ok h.ow _,by dsimp only;rw [applyO_len h.le];exact h.wf.ne,h.first⟩
def runW (xs:List WAct):TreeS×List Int:=xs.foldl stepW s0W
theorem runW_succ {xs:List WAct} {i:Nat} (h:i<xs.length):runW (xs.take (i+1))=stepW (runW (xs.take i)) xs[i]:=by
  unfold runW
  rw [List.take_succ_eq_append_getElem h,List.foldl_append]
  rfl
theorem OKW.run (xs:List WAct):OKW (runW xs):=by
  have key:∀ m,m≤xs.length→OKW (runW (xs.take m)):=by
    intro m
    induction m with
    | zero=>intro _;exact OKW.zero
    | succ m ih=>intro hm;rw [runW_succ (by omega)];exact (ih (by omega)).step _
  have:=key xs.length (Nat.le_refl _)
  rwa [List.take_length] at this
theorem stepW_add {s:TreeS×List Int} {a:WAct} (h:a.kind=0):stepW s a=((s.1.add (nameR a.root) (nameR a.parent) a.slot).2,s.2):=if_pos h
theorem nodes_add {t:TreeS} {r p:Root} {slot:Int}:∃ xs,(t.add r p slot).2.nodes=t.nodes++xs:=(t.add_most r p slot).2
theorem sumL_add {t:TreeS} (hw:t.WF) {o:List Int} (h:o.length≤t.nodes.length) (r p:Root) (slot:Int):sumL (t.add r p slot).2.nodes o=sumL t.nodes o:=by
  obtain ⟨xs,e⟩:=nodes_add (t:=t) (r:=r) (p:=p) (slot:=slot)
  rw [e];exact sumL_app hw.pa h
theorem bestL_add {t:TreeS} {T:List Int} (h:T.length≤t.nodes.length) (r p:Root) (slot:Int):bestL (t.add r p slot).2.nodes T=bestL t.nodes T:=by
  obtain ⟨xs,e⟩:=nodes_add (t:=t) (r:=r) (p:=p) (slot:=slot)
  rw [e];exact bestL_app h
theorem leafL_add {t:TreeS} {T:List Int} (h:T.length≤t.nodes.length) (r p:Root) (slot:Int):leafL (t.add r p slot).2.nodes T=leafL t.nodes T:=by
  obtain ⟨xs,e⟩:=nodes_add (t:=t) (r:=r) (p:=p) (slot:=slot)
  rw [e];exact leafL_app h
theorem idx_rt {t:TreeS} (hw:t.WF) {i:Nat} (hi:i<t.nodes.length):idxOf t.nodes (rtA t.nodes i)=some i:=by
  rw [rtA_get hi];exact idxOf_get hw.nd (List.getElem?_eq_getElem hi)
theorem growO_same {n:Nat} {o:List Int} (h:o.length=n):growO n o=o:=by unfold growO;rw [h,Nat.sub_self,List.replicate_zero,List.append_nil]
theorem grow_oA (n:Nat) (o:List Int) (j:Nat):oA (growO n o) j=oA o j:=oA_zeros
def stepA (s:TreeS×List Int) (a:WAct):TreeS×List Int:=if a.kind=0 then stepW s a else s
def runA (xs:List WAct):TreeS×List Int:=xs.foldl stepA s0W
theorem runA_succ {xs:List WAct} {i:Nat} (h:i<xs.length):runA (xs.take (i+1))=stepA (runA (xs.take i)) xs[i]:=by
  unfold runA
  rw [List.take_succ_eq_append_getElem h,List.foldl_append]
  rfl
theorem OKW.runA (xs:List WAct):OKW (runA xs)∧(Go.SL.runA xs).2=s0W.2:=by
  have key:∀ m,m≤xs.length→OKW (Go.SL.runA (xs.take m))∧(Go.SL.runA (xs.take m)).2=s0W.2:=by
    intro m
    induction m with
    | zero=>intro _;exact ⟨OKW.zero,rfl⟩
    | succ m ih =>
      intro hm
      obtain ⟨h1,h2⟩:=ih (by omega)
      rw [runA_succ (by omega)]
      unfold stepA
      by_cases hk:xs[m].kind=0
      · rw [if_pos hk]
        refine ⟨h1.step _,?_⟩
        rw [stepW_add hk];exact h2
      · rw [if_neg hk];exact ⟨h1,h2⟩
  have:=key xs.length (Nat.le_refl _)
  rwa [List.take_length] at this
def addL (o:List Int) (l:List (Nat×Int)):List Int:=l.foldl (fun o p=>o.set p.1 (oA o p.1+p.2)) o
def addS (l:List (Nat×Int)) (j:Nat):Int:=(l.map fun p=>if p.1=j then p.2 else 0).sum
theorem oA_ext {a b:List Int} (h:a.length=b.length) (he:∀ j,oA a j=oA b j):a=b:=by
  apply List.ext_getElem h
  intro j h1 h2
  rw [←oA_get h1,←oA_get h2,he j]
def toD (ns:List Node) (p:Nat×Int):Delta:=⟨rtA ns p.1,p.2⟩
def psum (l:List (Nat×Int)):Int:=(l.map (·.2)).sum
theorem applyO_grow (ns:List Node) (o:List Int) (l:List Delta) (h:o.length≤ns.length):applyO ns o l=applyO ns (growO ns.length o) l:=by
  unfold applyO
  dsimp only
  rw [growO_same (growO_len h)]
def stepZ (s:TreeS×List Int) (a:WAct):TreeS×List Int:=stepW s { a with kind:=0 }
def runZ (xs:List WAct):TreeS×List Int:=xs.foldl stepZ s0W
theorem runZ_succ {xs:List WAct} {i:Nat} (h:i<xs.length):runZ (xs.take (i+1))=stepZ (runZ (xs.take i)) xs[i]:=by
  unfold runZ
  rw [List.take_succ_eq_append_getElem h,List.foldl_append]
  rfl
theorem OKW.runZ (xs:List WAct):OKW (Go.SL.runZ xs)∧(Go.SL.runZ xs).2=s0W.2:=by
  have key:∀ m,m≤xs.length→OKW (Go.SL.runZ (xs.take m))∧(Go.SL.runZ (xs.take m)).2=s0W.2:=by
    intro m
    induction m with
    | zero=>intro _;exact ⟨OKW.zero,rfl⟩
    | succ m ih =>
      intro hm
      obtain ⟨h1,h2⟩:=ih (by omega)
      rw [runZ_succ (by omega)]
      unfold stepZ
      refine ⟨h1.step _,?_⟩
      rw [stepW_add rfl]
      exact h2
  have:=key xs.length (Nat.le_refl _)
  rwa [List.take_length] at this
def pl (n:Nat) (at_ more:List Int) (i:Nat):List (Nat×Int):=(List.range i).map fun j=>(u64N (oA at_ j) % n,oA more j)
def slA (ns:List Node) (i:Nat):Int:=((ns[i]?).getD nodeNo).slot
theorem slA_get {ns:List Node} {i:Nat} (h:i<ns.length):slA ns i=ns[i].slot:=by simp [slA,h]
/-- those of the first m that stand below a -/
def selI (ns:List Node) (a m:Nat):List Nat:=(List.range m).filter fun i:Nat=>belI ns a (i:Int)
def rk (ns:List Node) (a j:Nat):Nat:=(selI ns a j).length
def pnode (ns:List Node) (a i:Nat):Node:=⟨rtA ns i,slA ns i,if i=a then -1 else ((rk ns a (prA ns i).toNat:Nat):Int)⟩
def prN (ns:List Node) (a m:Nat):List Node:=(selI ns a m).map (pnode ns a)
def prT (t:TreeS) (a:Nat):TreeS:=⟨prN t.nodes a t.nodes.length,t.most⟩
def prO (ns:List Node) (a:Nat) (o:List Int):List Int:=(selI ns a ns.length).map (oA o)
section
variable {ns:List Node} {a m i j k x y:Nat}
theorem selI_succ (ns:List Node) (a m:Nat):selI ns a (m+1)=if belI ns a (m:Int)=true then selI ns a m++[m] else selI ns a m:=by
  unfold selI
  rw [List.range_succ,List.filter_append]
  by_cases h:belI ns a (m:Int)=true
  · rw [if_pos h];simp [List.filter_cons,h]
  · rw [if_neg h];simp [List.filter_cons,h]
theorem mem_selI:i∈selI ns a m↔i<m∧belI ns a (i:Int)=true:=by simp [selI]
theorem selI_low (h:m≤a):selI ns a m=[]:=by
  unfold selI
  rw [List.filter_eq_nil_iff]
  intro i hi
  rw [List.mem_range] at hi
  rw [belI_lt (by omega)];simp
theorem rk_self:rk ns a a=0:=by unfold rk;rw [selI_low (Nat.le_refl _)];rfl
theorem rk_succ (ns:List Node) (a m:Nat):rk ns a (m+1)=rk ns a m+if belI ns a (m:Int)=true then 1 else 0:=by
  unfold rk;rw [selI_succ];split<;>simp
theorem rk_mono (h:i≤j):rk ns a i≤rk ns a j:=by
  induction j with
  | zero=>rw [Nat.le_zero.1 h];exact Nat.le_refl _
  | succ j ih =>
    rcases Nat.lt_or_ge i (j+1) with h2 | h2
    · have:=ih (by omega);rw [rk_succ];omega
    · rw [show i=j+1 by omega];exact Nat.le_refl _
theorem rk_lt (h:i<j) (hb:belI ns a (i:Int)=true):rk ns a i<rk ns a j:=by
  have h1:=rk_succ ns a i
  rw [if_pos hb] at h1
  have:=rk_mono (ns:=ns) (a:=a) (show i+1≤j by omega)
  omega
theorem rk_le (ns:List Node) (a m:Nat):rk ns a m≤m:=by
  unfold rk selI;have:=List.length_filter_le (fun i:Nat=>belI ns a (i:Int)) (List.range m);simpa using this
theorem selI_nodup:(selI ns a m).Nodup:=List.nodup_range.filter _
theorem selI_rk:∀ {m i:Nat},i<m→belI ns a (i:Int)=true→(selI ns a m)[rk ns a i]? = some i
  | 0,_,h,_=>absurd h (Nat.not_lt_zero _)
  | m+1,i,h,hb=>by
    rw [selI_succ]
    rcases Nat.lt_or_ge i m with h2 | h2
    · have h3:=selI_rk h2 hb
      have h4:=(List.getElem?_eq_some_iff.1 h3).1
      split
      · rw [List.getElem?_append_left h4];exact h3
      · exact h3
    · have e:i=m:=by omega
      subst e
      rw [if_pos hb]
      unfold rk
      rw [List.getElem?_append_right (Nat.le_refl _),Nat.sub_self];rfl
theorem selI_at (h:k<rk ns a m):∃ i,(selI ns a m)[k]? = some i∧i<m∧belI ns a (i:Int)=true∧rk ns a i=k:=by
  have hk:k<(selI ns a m).length:=h
  obtain ⟨h1,h2⟩:=mem_selI.1 (List.getElem_mem hk)
  have h3:=selI_rk h1 h2
  refine ⟨(selI ns a m)[k],List.getElem?_eq_getElem hk,h1,h2,?_⟩
  exact nodup_get selI_nodup h3 (List.getElem?_eq_getElem hk)
theorem prN_len (ns:List Node) (a m:Nat):(prN ns a m).length=rk ns a m:=by simp [prN,rk]
theorem prN_rk (hi:i<m) (hb:belI ns a (i:Int)=true):(prN ns a m)[rk ns a i]? = some (pnode ns a i):=by
  unfold prN;rw [List.getElem?_map,selI_rk hi hb];rfl
theorem belI_up1 (hp:Par ns) (hi:i<ns.length) (hb:belI ns a (i:Int)=true) (hne:i≠a):∃ j:Nat,prA ns i=j∧j<i∧belI ns a (j:Int)=true∧slA ns j<slA ns i:=by
  have h1:=belI_pr hp hi hne
  rcases hp.rg hi with ⟨_,h⟩ | ⟨j,h,h2⟩
  · rw [h1,h,belI_neg (by omega)] at hb;cases hb
  · refine ⟨j,h,h2,by rw [h1,h] at hb;exact hb,?_⟩
    rcases hp i ns[i] (List.getElem?_eq_getElem hi) with ⟨_,h3⟩ | ⟨j',n,h3,h4,h5,h6⟩
    · rw [prA_get hi] at h;omega
    · rw [prA_get hi] at h
      obtain rfl:j'=j:=by omega
      rw [slA_get hi];unfold slA;rw [h5];exact h6
theorem prN_par (hp:Par ns) (hm:m≤ns.length):Par (prN ns a m):=by
  intro k n hk
  have hk2:k<rk ns a m:=by have:=(List.getElem?_eq_some_iff.1 hk).1;rwa [prN_len] at this
  obtain ⟨i,h1,h2,h3,h4⟩:=selI_at hk2
  have h5:=prN_rk h2 h3
  rw [h4,hk] at h5
  obtain rfl:n=pnode ns a i:=Option.some.inj h5
  by_cases e:i=a
  · subst e
    exact .inl ⟨by rw [←h4];exact rk_self,by unfold pnode;rw [if_pos rfl]⟩
  · obtain ⟨j,e1,e2,e3,e4⟩:=belI_up1 hp (show i<ns.length by omega) h3 e
    refine .inr ⟨rk ns a j,pnode ns a j,by unfold pnode;dsimp only;rw [if_neg e,e1];rfl,by rw [←h4];exact rk_lt e2 e3,prN_rk (by omega) e3,e4⟩
theorem prT_wf {t:TreeS} (hw:t.WF) (ha:a<t.nodes.length):(prT t a).WF:=by
  have hl:(prT t a).nodes.length=rk t.nodes a t.nodes.length:=prN_len _ _ _
  have h1:=rk_le t.nodes a t.nodes.length
  have h2:=rk_lt (ns:=t.nodes) ha belI_eq
  have h3:=hw.le
  refine ⟨?_,by omega,hw.m1,hw.m2,by show (_:Int)≤t.most;omega,?_,prN_par hw.pa (Nat.le_refl _)⟩
  · have e:(prN t.nodes a t.nodes.length).map (·.root)=(selI t.nodes a t.nodes.length).map (rtA t.nodes):=by unfold prN;rw [List.map_map];rfl
    show ((prN t.nodes a t.nodes.length).map (·.root)).Nodup
    rw [e]
    refine List.pairwise_map.2 (List.Pairwise.imp_of_mem ?_ selI_nodup)
    intro x y hx hy hne h
    exact hne (rtA_inj hw.nd (mem_selI.1 hx).1 (mem_selI.1 hy).1 h)
  · intro n hn
    obtain ⟨k,hk,rfl⟩:=List.mem_map.1 hn
    have h4:=(mem_selI.1 hk).1
    have:=hw.sl _ (List.getElem_mem h4)
    show 0≤slA t.nodes k∧slA t.nodes k≤1073741824
    rw [slA_get h4];exact this
end
section
variable {ns:List Node} {a m i j k x y:Nat}
/-- an index,moved -/
def mvI (ns:List Node) (a:Nat) (b:Int):Int:=if b<0 then -1 else ((rk ns a b.toNat:Nat):Int)
def prR (ns:List Node) (a m:Nat):List Root:=(selI ns a m).map (rtA ns)
def prS (ns:List Node) (a m:Nat):List Int:=(selI ns a m).map (slA ns)
def upR (ns:List Node) (a i:Nat):Root:=if i=a then Root.zero else (parR ns).getD i Root.zero
def prP (ns:List Node) (a m:Nat):List Root:=(selI ns a m).map (upR ns a)
def prOm (ns:List Node) (a m:Nat) (o:List Int):List Int:=(selI ns a m).map (oA o)
end
def t0M:TreeS:=TreeS.new (nameR 0) 0 100
def inM (b:PBlk):Bool:=decide (0≤b.n) && decide (b.n≤1099511627776)
def stepM (s:TreeS×List Delta) (b:PBlk):TreeS×List Delta :=
  let t:=(s.1.add (nameR b.root) (nameR b.parent) b.slot).2
  (t,if 0≤t.place (nameR b.root) then s.2++[⟨nameR b.root,b.n⟩] else s.2)
def runM (xs:List PBlk):TreeS×List Delta:=xs.foldl stepM (t0M,[])
def ownM (xs:List PBlk):List Int:=(applyO (runM xs).1.nodes (growO (runM xs).1.nodes.length []) (runM xs).2).2
theorem runM_succ {xs:List PBlk} {i:Nat} (h:i<xs.length):runM (xs.take (i+1))=stepM (runM (xs.take i)) xs[i]:=by
  unfold runM
  rw [List.take_succ_eq_append_getElem h,List.foldl_append]
  rfl
structure OKM (s:TreeS):Prop where
  wf:s.WF
  first:(s.nodes[0]?).map (·.root)=some (nameR 0)
theorem OKM.add {s:TreeS} (h:OKM s) (r p:Root) (sl:Int):OKM (s.add r p sl).2:=by
  obtain ⟨_,xs,e⟩:=s.add_most r p sl
  refine ⟨h.wf.add _ _ _,?_⟩
  rw [e,List.getElem?_append_left h.wf.ne];exact h.first
theorem OKM.zero:OKM t0M:=⟨TreeS.WF.new (by decide) (by decide) (by decide) (by decide),rfl⟩
theorem OKM.take (xs:List PBlk):∀ m,m≤xs.length→OKM (runM (xs.take m)).1∧(runM (xs.take m)).2.length≤m:=by
  intro m
  induction m with
  | zero=>intro _;exact ⟨OKM.zero,Nat.le_refl _⟩
  | succ m ih =>
    intro hm
    rw [runM_succ (by omega)]
    obtain ⟨h1,h2⟩:=ih (by omega)
    refine ⟨h1.add _ _ _,?_⟩
    unfold stepM;dsimp only;split
    · rw [List.length_append,List.length_singleton];omega
    · omega
theorem OKM.run (xs:List PBlk):OKM (runM xs).1∧(runM xs).2.length≤xs.length:=by
  have:=OKM.take xs xs.length (Nat.le_refl _)
  rwa [List.take_length] at this
/-- the deltas of the first k that are left -/
def delP (ns:List Node) (a:Nat) (o:List Int) (k:Nat):List Delta:=((selI ns a ns.length).take k).map fun i=>(⟨rtA ns i,oA o i⟩:Delta)
structure TabS where
  slots:Int
  latest:List (Option Vote)
  out:List Bool
  first:List ((Int×Int)×Root)
def TabS.isV (t:TabS) (who:Int):Bool:=decide (0≤who) && decide (who<t.latest.length)
def TabS.take (t:TabS) (v:Vote):Int×TabS :=
  if t.isV v.who=false∨v.slot<0∨1073741824<v.slot then (5,t)
  else if t.out.getD v.who.toNat false=true then (4,t)
  else match look t.first (v.who,v.slot / t.slots) with
    | some r=>if r=v.target then (1,t) else (2,{ t with out:=t.out.set v.who.toNat true })
    | none =>
      match t.latest.getD v.who.toNat none with
      | some o=>if v.slot / t.slots<o.slot / t.slots then (3,{ t with first:=ins t.first (v.who,v.slot / t.slots) v.target })
          else (0,{ t with first:=ins t.first (v.who,v.slot / t.slots) v.target,latest:=t.latest.set v.who.toNat (some v) })
      | none=>(0,{ t with first:=ins t.first (v.who,v.slot / t.slots) v.target,latest:=t.latest.set v.who.toNat (some v) })
def TabS.vote (t:TabS) (who:Int):Option Vote:=if t.isV who=true then t.latest.getD who.toNat none else none
def TabS.counts (t:TabS) (who:Int):Bool:=t.isV who && !t.out.getD who.toNat false
def TabS.forget (t:TabS) (slot:Int):TabS:=if slot<0 then t else { t with first:=t.first.filter fun p=>decide (slot / t.slots≤p.1.2) }
def TabS.new (n:Nat) (slots:Int):TabS:=⟨slots,List.replicate n none,List.replicate n false,[]⟩
structure TabS.WF (t:TabS):Prop where
  s1:1≤t.slots
  s2:t.slots≤32
  n1:t.latest.length≤64
  lo:t.out.length=t.latest.length
  nd:(t.first.map (·.1)).Nodup
  rg:∀ p∈t.first,0≤p.1.1∧p.1.1<64∧0≤p.1.2∧p.1.2≤1073741824
  sl:∀ v,some v∈t.latest→0≤v.slot∧v.slot≤1073741824
theorem look_none_iff {K V:Type} [DecidableEq K] {kvs:List (K×V)} {k:K}:look kvs k=none↔∀ p∈kvs,p.1≠k:=by
  unfold look
  simp [List.find?_eq_none]
theorem ep_le {s k:Int} (h0:0≤s) (hs:s≤1073741824) (hk:1≤k):0≤s / k∧s / k≤1073741824:=by
  have h3:s / k≤s:=Int.ediv_le_self k h0
  have h4:0≤s / k:=Int.ediv_nonneg h0 (by omega)
  omega
theorem TabS.isV_iff {t:TabS} {w:Int}:t.isV w=true↔0≤w∧w<t.latest.length:=by simp [TabS.isV]
theorem mem_set_some {l:List (Option Vote)} {i:Nat} {v x:Vote} (h:some x∈l.set i (some v)):x=v∨some x∈l:=by
  rcases List.mem_or_eq_of_mem_set h with h | h
  · exact .inr h
  · simp at h;exact .inl h
theorem TabS.WF.first_ins {t:TabS} (h:t.WF) {w e:Int} {r:Root} (hw:0≤w∧w<64) (he:0≤e∧e≤1073741824) (hl:look t.first (w,e)=none) :
    ((ins t.first (w,e) r).map (·.1)).Nodup∧∀ p∈ins t.first (w,e) r,0≤p.1.1∧p.1.1<64∧0≤p.1.2∧p.1.2≤1073741824:=by
  rw [ins_none hl]
  constructor
  · rw [List.map_append,List.nodup_append]
    refine ⟨h.nd,by simp,fun a ha b hb=>?_⟩
    simp at hb
    subst hb
    obtain ⟨p,hp,rfl⟩:=List.mem_map.1 ha
    exact look_none_iff.1 hl p hp
  · intro p hp
    rcases List.mem_append.1 hp with hp | hp
    · exact h.rg p hp
    · simp at hp;subst hp
      exact ⟨hw.1,hw.2,he.1,he.2⟩
theorem TabS.WF.take {t:TabS} (h:t.WF) (v:Vote):(t.take v).2.WF:=by
  unfold TabS.take
  split
  · exact h
  · rename_i hc
    split
    · exact h
    · have hv:t.isV v.who=true:=by cases e:t.isV v.who<;>simp_all
      rw [TabS.isV_iff] at hv
      have hn:=h.n1
      have hs0:0≤v.slot:=by
        rcases Int.lt_or_le v.slot 0 with h0 | h0
        · exact absurd (.inr (.inl h0)) hc
        · exact h0
      have hs1:v.slot≤1073741824:=by
        rcases Int.lt_or_le 1073741824 v.slot with h0 | h0
        · exact absurd (.inr (.inr h0)) hc
        · exact h0
      have he:=ep_le hs0 hs1 h.s1
      split
      · split
        · exact h
        · exact { h with lo:=by simp [h.lo] }
      · rename_i hl
        obtain ⟨h1,h2⟩:=h.first_ins (r:=v.target) (w:=v.who) ⟨hv.1,by omega⟩ he hl
        split
        · split
          · exact { h with nd:=h1,rg:=h2 }
          · refine { h with nd:=h1,rg:=h2,n1:=by simp [h.n1],lo:=by simp [h.lo],sl:=fun x hx=>?_ }
            rcases mem_set_some hx with rfl | hx
            · exact ⟨hs0,hs1⟩
            · exact h.sl x hx
        · refine { h with nd:=h1,rg:=h2,n1:=by simp [h.n1],lo:=by simp [h.lo],sl:=fun x hx=>?_ }
          rcases mem_set_some hx with rfl | hx
          · exact ⟨hs0,hs1⟩
          · exact h.sl x hx
theorem TabS.WF.forget {t:TabS} (h:t.WF) (s:Int):(t.forget s).WF:=by
  unfold TabS.forget
  split
  · exact h
  · exact { h with nd:=h.nd.sublist ((List.filter_sublist (l:=t.first)).map _),rg:=fun p hp=>h.rg p (List.mem_filter.1 hp).1 }
theorem TabS.WF.new {n:Nat} {s:Int} (hn:n≤64) (h1:1≤s) (h2:s≤32):(TabS.new n s).WF :=
  ⟨h1,h2,by simpa [TabS.new] using hn,by simp [TabS.new],by simp [TabS.new],by simp [TabS.new],by simp [TabS.new]⟩
theorem TabS.take_slots (t:TabS) (v:Vote):(t.take v).2.slots=t.slots∧(t.take v).2.latest.length=t.latest.length:=by
  unfold TabS.take
  repeat' split
  all_goals simp
theorem TabS.forget_slots (t:TabS) (s:Int):(t.forget s).slots=t.slots∧(t.forget s).latest=t.latest∧(t.forget s).out=t.out:=by
  unfold TabS.forget
  split<;>simp
theorem getD_set_self {α:Type} (l:List α) (i:Nat) (a d:α) (h:i<l.length):(l.set i a).getD i d=a:=by simp [List.getD_eq_getElem?_getD,h]
theorem getD_set_ne {α:Type} (l:List α) (i j:Nat) (a d:α) (h:i≠j):(l.set i a).getD j d=l.getD j d:=by simp [List.getD_eq_getElem?_getD,List.getElem?_set_ne h]
theorem bool_not_false {b:Bool} (h:¬ b=false):b=true:=by cases b<;>simp_all
theorem bool_not_true {b:Bool} (h:¬ b=true):b=false:=by cases b<;>simp_all
/-- the ways of a vote -/
theorem TabS.take_cases (t:TabS) (v:Vote) (h:t.WF) :
    ((t.isV v.who=false∨v.slot<0∨1073741824<v.slot)∧t.take v=(5,t)) ∨
    ((0≤v.who∧v.who<t.latest.length∧0≤v.slot∧v.slot≤1073741824) ∧
      ((t.out.getD v.who.toNat false=true∧t.take v=(4,t)) ∨
       (t.out.getD v.who.toNat false=false ∧
        ((∃ r,look t.first (v.who,v.slot / t.slots)=some r∧((r=v.target∧t.take v=(1,t))∨(r≠v.target∧t.take v=(2,{ t with out:=t.out.set v.who.toNat true })))) ∨
         (look t.first (v.who,v.slot / t.slots)=none ∧
          ((∃ o,t.latest.getD v.who.toNat none=some o∧v.slot / t.slots<o.slot / t.slots∧t.take v=(3,{ t with first:=t.first++[((v.who,v.slot / t.slots),v.target)] })) ∨
           ((∀ o,t.latest.getD v.who.toNat none=some o→o.slot / t.slots≤v.slot / t.slots)∧t.take v=(0,{ t with first:=t.first++[((v.who,v.slot / t.slots),v.target)],latest:=t.latest.set v.who.toNat (some v) })))))))):=by
  by_cases hc:t.isV v.who=false∨v.slot<0∨1073741824<v.slot
  · left
    exact ⟨hc,by unfold TabS.take;rw [if_pos hc]⟩
  · right
    have hv:t.isV v.who=true:=bool_not_false fun e=>hc (.inl e)
    have h1:¬ v.slot<0:=fun e=>hc (.inr (.inl e))
    have h2:¬ 1073741824<v.slot:=fun e=>hc (.inr (.inr e))
    rw [TabS.isV_iff] at hv
    refine ⟨⟨hv.1,hv.2,by omega,by omega⟩,?_⟩
    by_cases ho:t.out.getD v.who.toNat false=true
    · exact .inl ⟨ho,by unfold TabS.take;rw [if_neg hc,if_pos ho]⟩
    · right
      refine ⟨bool_not_true ho,?_⟩
      have e:t.take v=match look t.first (v.who,v.slot / t.slots) with
        | some r=>if r=v.target then (1,t) else (2,{ t with out:=t.out.set v.who.toNat true })
        | none =>
          match t.latest.getD v.who.toNat none with
          | some o=>if v.slot / t.slots<o.slot / t.slots then (3,{ t with first:=ins t.first (v.who,v.slot / t.slots) v.target })
              else (0,{ t with first:=ins t.first (v.who,v.slot / t.slots) v.target,latest:=t.latest.set v.who.toNat (some v) })
          | none=>(0,{ t with first:=ins t.first (v.who,v.slot / t.slots) v.target,latest:=t.latest.set v.who.toNat (some v) }):=by
        conv=>lhs;unfold TabS.take
        (rw [if_neg hc,if_neg ho])<;>rfl
      rw [e]
      cases hl:look t.first (v.who,v.slot / t.slots) with
      | some r =>
        left
        refine ⟨r,rfl,?_⟩
        by_cases hr:r=v.target
        · exact .inl ⟨hr,by simp [hr]⟩
        · exact .inr ⟨hr,by simp [hr]⟩
      | none =>
        right
        refine ⟨rfl,?_⟩
        rw [ins_none hl]
        cases hg:t.latest.getD v.who.toNat none with
        | none=>exact .inr ⟨fun o ho=>(by cases ho),rfl⟩
        | some o =>
          by_cases hlt:v.slot / t.slots<o.slot / t.slots
          · exact .inl ⟨o,rfl,hlt,by simp [hlt]⟩
          · exact .inr ⟨fun o' ho'=>by cases ho';omega,by simp [hlt]⟩
theorem TabS.counts_true {t:TabS} {w:Int}:t.counts w=true↔t.isV w=true∧t.out.getD w.toNat false=false:=by simp [TabS.counts]
theorem TabS.vote_none {t:TabS} {w:Int} (h:t.isV w=false):t.vote w=none:=by simp [TabS.vote,h]
theorem TabS.vote_at {t:TabS} {w:Int} (h:0≤w∧w<t.latest.length):t.vote w=t.latest.getD w.toNat none:=by
  rw [TabS.vote,if_pos (TabS.isV_iff.2 h)]
/-- others' votes -/
structure TabS.Apart (who:Int) (a b:TabS):Prop where
  sl:a.slots=b.slots
  ln:a.latest.length=b.latest.length
  la:0≤who→a.latest.getD who.toNat none=b.latest.getD who.toNat none
  ou:0≤who→a.out.getD who.toNat false=b.out.getD who.toNat false
  fi:∀ e,look a.first (who,e)=look b.first (who,e)
theorem look_append_one {K V:Type} [DecidableEq K] {kvs:List (K×V)} {k k':K} {v:V}:look (kvs++[(k,v)]) k'=match look kvs k' with | some x=>some x | none=>if k=k' then some v else none:=by
  unfold look
  rw [List.find?_append]
  cases h:kvs.find? fun p=>decide (p.1=k')
  · by_cases hk:k=k'<;>simp [hk]
  · simp
theorem TabS.Apart.other {who:Int} {a b:TabS} (h:TabS.Apart who a b) (ha:a.WF) (v:Vote) (hne:v.who≠who):TabS.Apart who (a.take v).2 b:=by
  rcases TabS.take_cases a v ha with ⟨h1,h2⟩ | ⟨⟨h1,h2,h3,h4⟩,h5⟩
  · rw [h2];exact h
  · have hw:0≤who→v.who.toNat≠who.toNat:=fun h0=>by omega
    rcases h5 with ⟨h6,h7⟩ | ⟨h6,⟨r,h7,⟨h8,h9⟩ | ⟨h8,h9⟩⟩ | ⟨h7,⟨o,h8,h9,h10⟩ | ⟨h8,h9⟩⟩⟩
    · rw [h7];exact h
    · rw [h9];exact h
    · rw [h9];exact { h with ou:=fun h0=>(getD_set_ne _ _ _ _ _ (hw h0)).trans (h.ou h0) }
    · rw [h10]
      refine { h with fi:=fun e=>?_ }
      dsimp only
      rw [look_append_one,h.fi e]
      cases look b.first (who,e)<;>simp [hne]
    · rw [h9]
      refine { h with ln:=(List.length_set ..).trans h.ln,la:=fun h0=>(getD_set_ne _ _ _ _ _ (hw h0)).trans (h.la h0),fi:=fun e=>?_ }
      dsimp only
      rw [look_append_one,h.fi e]
      cases look b.first (who,e)<;>simp [hne]
theorem look_filter {K V:Type} [DecidableEq K] {kvs:List (K×V)} {q:K×V→Bool} {g:K→Bool} (hq:∀ p,q p=g p.1) {k:K}:look (kvs.filter q) k=if g k=true then look kvs k else none:=by
  unfold look
  rw [List.find?_filter]
  by_cases hg:g k=true
  · rw [if_pos hg]
    congr 2
    funext p
    rw [hq]
    by_cases hp:p.1=k
    · simp [hp,hg]
    · simp [hp]
  · rw [if_neg hg]
    rw [Option.map_eq_none_iff,List.find?_eq_none]
    intro p _
    rw [hq]
    intro hp
    simp at hp
    exact hg (hp.2 ▸ hp.1)
theorem TabS.Apart.forget {who:Int} {a b:TabS} (h:TabS.Apart who a b) (s:Int):TabS.Apart who (a.forget s) (b.forget s):=by
  unfold TabS.forget
  split
  · exact h
  · refine { h with fi:=fun e=>?_ }
    dsimp only
    rw [look_filter (g:=fun k:Int×Int=>decide (s / a.slots≤k.2)) (fun p=>rfl),look_filter (g:=fun k:Int×Int=>decide (s / b.slots≤k.2)) (fun p=>rfl),h.fi e,h.sl]
theorem TabS.Apart.start (who:Int) (t:TabS):TabS.Apart who t t:=⟨rfl,rfl,fun _=>rfl,fun _=>rfl,fun _=>rfl⟩
/-- where in its epoch a slot is -/
def SameEp (k:Int):Option Vote→Option Vote→Prop
  | none,none=>True
  | some x,some y=>x.slot / k=y.slot / k
  | _,_=>False
structure TabS.Eps (a b:TabS):Prop where
  sl:a.slots=b.slots
  ou:a.out=b.out
  fi:a.first=b.first
  ln:a.latest.length=b.latest.length
  la:∀ i,SameEp a.slots (a.latest.getD i none) (b.latest.getD i none)
theorem TabS.Eps.start (t:TabS):TabS.Eps t t:=⟨rfl,rfl,rfl,rfl,fun i=>by cases t.latest.getD i none<;>simp [SameEp]⟩
theorem SameEp.refl (k:Int) (x:Option Vote):SameEp k x x:=by cases x<;>simp [SameEp]
theorem ep_round (s k:Int) (hk:1≤k):(s-s % k) / k=s / k:=by
  have h1:s-s % k=k*(s / k):=by have:=Int.emod_add_mul_ediv s k;omega
  rw [h1,Int.mul_ediv_cancel_left _ (by omega)]
theorem ep_round_rg {s k:Int} (h0:0≤s) (hk:1≤k):0≤s-s % k∧s-s % k≤s:=by
  have h1:s-s % k=k*(s / k):=by have:=Int.emod_add_mul_ediv s k;omega
  have h2:0≤s / k:=Int.ediv_nonneg h0 (by omega)
  have h3:=Int.emod_nonneg s (show k≠0 by omega)
  have h4:0≤k*(s / k):=Int.mul_nonneg (by omega) h2
  omega
theorem TabS.Eps.step {a b:TabS} (h:TabS.Eps a b) (ha:a.WF) (hb:b.WF) (v:Vote) (h0:0≤v.slot) (h1:v.slot≤1073741824) :
    TabS.Eps (a.take v).2 (b.take { v with slot:=v.slot-v.slot % a.slots }).2∧(a.take v).1=(b.take { v with slot:=v.slot-v.slot % a.slots }).1:=by
  have hlen:=h.ln
  have la:=ha.lo
  have lb:=hb.lo
  have hr:=ep_round v.slot a.slots ha.s1
  have hg:=ep_round_rg (k:=a.slots) h0 ha.s1
  generalize hv':({ v with slot:=v.slot-v.slot % a.slots }:Vote)=v'
  have e1:v'.who=v.who:=by rw [←hv']
  have e2:v'.target=v.target:=by rw [←hv']
  have e3:v'.slot / b.slots=v.slot / a.slots:=by rw [←hv',←h.sl];exact hr
  have e4:0≤v'.slot∧v'.slot≤1073741824:=by rw [←hv'];dsimp only;omega
  have hla:=h.la v.who.toNat
  rcases TabS.take_cases a v ha with ⟨h1',h2⟩ | ⟨⟨g1,g2,g3,g4⟩,h5⟩
  · have h3:b.take v'=(5,b):=by
      unfold TabS.take
      rw [if_pos]
      left
      rcases h1' with h1' | h1' | h1'
      · simpa [TabS.isV,hlen,e1] using h1'
      · omega
      · omega
    rw [h2,h3]
    exact ⟨h,rfl⟩
  · rcases TabS.take_cases b v' hb with ⟨q1,q2⟩ | ⟨⟨q1,q2,q3,q4⟩,q5⟩
    · exfalso
      rcases q1 with q1 | q1 | q1
      · rw [TabS.isV_iff.2 ⟨by omega,by omega⟩] at q1;cases q1
      · omega
      · omega
    · rw [e1,e2,e3] at q5
      rw [←h.ou,←h.fi] at q5
      have fin:TabS.Eps { a with first:=a.first++[((v.who,v.slot / a.slots),v.target)] } { b with first:=a.first++[((v.who,v.slot / a.slots),v.target)],out:=a.out }:={ h with ou:=rfl,fi:=rfl }
      have fin2:TabS.Eps { a with first:=a.first++[((v.who,v.slot / a.slots),v.target)],latest:=a.latest.set v.who.toNat (some v) } { b with first:=a.first++[((v.who,v.slot / a.slots),v.target)],out:=a.out,latest:=b.latest.set v.who.toNat (some v') } :=
by
        refine { h with ou:=rfl,fi:=rfl,ln:=by simp [hlen],la:=fun i=>?_ }
        dsimp only
        by_cases hi:v.who.toNat=i
        · subst hi
          rw [getD_set_self _ _ _ _ (by omega),getD_set_self _ _ _ _ (by omega)]
          show v.slot / a.slots=v'.slot / a.slots
          rw [h.sl,e3,h.sl]
        · rw [getD_set_ne _ _ _ _ _ hi,getD_set_ne _ _ _ _ _ hi]
          exact h.la i
      have hbo:b.out=a.out:=h.ou.symm
      have hbf:b.first=a.first:=h.fi.symm
      rcases h5 with ⟨h6,h7⟩ | ⟨h6,⟨r,h7,⟨h8,h9⟩ | ⟨h8,h9⟩⟩ | ⟨h7,⟨o,h8,h9,h10⟩ | ⟨h8,h9⟩⟩⟩ <;>
      rcases q5 with ⟨q6,q7⟩ | ⟨q6,⟨r',q7,⟨q8,q9⟩ | ⟨q8,q9⟩⟩ | ⟨q7,⟨o',q8,q9,q10⟩ | ⟨q8,q9⟩⟩⟩
      all_goals first
        | (exfalso;rw [q6] at h6;cases h6;done)
        | (exfalso;rw [q7] at h7;cases h7;done)
        | (exfalso;rw [q7] at h7;cases h7;contradiction)
        | (exfalso;rw [h8] at hla;cases hy:b.latest.getD v.who.toNat none with
            | none=>rw [hy] at hla;exact hla
            | some y=>rw [hy] at hla;have h11:=q8 y hy;have h12:o.slot / a.slots=y.slot / a.slots:=hla;rw [←h.sl] at h11;omega)
        | (exfalso;rw [q8] at hla;cases hy:a.latest.getD v.who.toNat none with
            | none=>rw [hy] at hla;exact hla
            | some y=>rw [hy] at hla;have h11:=h8 y hy;have h12:y.slot / a.slots=o'.slot / a.slots:=hla;rw [←h.sl] at q9;omega)
        | (rw [h7,q7];exact ⟨h,rfl⟩)
        | (rw [h9,q9];exact ⟨h,rfl⟩)
        | (rw [h9,q9];exact ⟨{ h with ou:=rfl,fi:=rfl },rfl⟩)
        | (rw [h10,q10];exact ⟨fin,rfl⟩)
        | (rw [h9,q9];exact ⟨fin2,rfl⟩)
/-- in whatever order -/
def TabS.all (t:TabS):List Vote→TabS
  | []=>t
  | v::r=>TabS.all (t.take v).2 r
theorem TabS.all_append (t:TabS) (x y:List Vote):t.all (x++y)=(t.all x).all y:=by
  induction x generalizing t with
  | nil=>rfl
  | cons v r ih=>exact ih _
def Ok (n:Nat) (v:Vote):Prop:=0≤v.who∧v.who<n∧0≤v.slot∧v.slot≤1073741824
structure SeesW (k:Int) (V:Vote→Prop) (o:Bool) (f:Int→Option Root) (l:Option Vote):Prop where
  ou:o=true↔∃ x y,V x∧V y∧x.slot / k=y.slot / k∧x.target≠y.target
  fi:o=false→∀ e r,f e=some r↔∃ x,V x∧x.slot / k=e∧x.target=r
  ha:l=none↔∀ x,¬ V x
  la:o=false→∀ y,l=some y→V y∧∀ x,V x→x.slot / k≤y.slot / k
theorem SeesW.congr {k:Int} {V V':Vote→Prop} {o:Bool} {f f':Int→Option Root} {l:Option Vote} (h:SeesW k V o f l) (hV:∀ x,V x↔V' x) (hf:∀ e,f e=f' e):SeesW k V' o f' l:=by
  have hV':V=V':=funext fun x=>propext (hV x)
  have hf':f=f':=funext hf
  subst hV' hf'
  exact h
theorem SeesW.one {k:Int} {V:Vote→Prop} {o o':Bool} {f f':Int→Option Root} {l l':Option Vote} (h:SeesW k V o f l) (h':SeesW k V o' f' l') :
    o=o'∧l.isSome=l'.isSome∧(o=false→∀ y y',l=some y→l'=some y'→y.slot / k=y'.slot / k∧y.target=y'.target):=by
  have e1:o=o':=by rw [Bool.eq_iff_iff,h.ou,h'.ou]
  refine ⟨e1,?_,fun ho y y' hy hy'=>?_⟩
  · have:=h.ha.trans h'.ha.symm
    cases l<;>cases l'<;>simp_all
  · obtain ⟨a1,a2⟩:=h.la ho y hy
    obtain ⟨b1,b2⟩:=h'.la (e1 ▸ ho) y' hy'
    have e2:y.slot / k=y'.slot / k:=Int.le_antisymm (b2 y a1) (a2 y' b1)
    refine ⟨e2,Classical.byContradiction fun hne=>?_⟩
    have:=h.ou.2 ⟨y,y',a1,b1,e2,hne⟩
    rw [ho] at this;cases this
def TabS.Sees (vs:List Vote) (t:TabS):Prop:=t.WF∧∀ w:Int,0≤w→w<t.latest.length→SeesW t.slots (fun x=>x∈vs∧Ok t.latest.length x∧x.who=w) (t.out.getD w.toNat false) (fun e=>look t.first (w,e)) (t.latest.getD w.toNat none)
theorem TabS.Sees.new {n:Nat} {s:Int} (hn:n≤64) (h1:1≤s) (h2:s≤32):(TabS.new n s).Sees []:=by
  refine ⟨TabS.WF.new hn h1 h2,fun w hw hl=>?_⟩
  have hl':w<n:=by simpa [TabS.new] using hl
  have e1:(TabS.new n s).out.getD w.toNat false=false:=by simp [TabS.new,List.getD_eq_getElem?_getD,List.getElem?_replicate];split<;>rfl
  have e2:(TabS.new n s).latest.getD w.toNat none=none:=by simp [TabS.new,List.getD_eq_getElem?_getD,List.getElem?_replicate];split<;>rfl
  rw [e1,e2]
  exact ⟨by simp,fun _ e r=>by simp [TabS.new,look],by simp,fun _ y hy=>by cases hy⟩
theorem SeesW.skip {k:Int} {vs:List Vote} {n:Nat} {w:Int} {v:Vote} {o:Bool} {f:Int→Option Root} {l:Option Vote} (h:SeesW k (fun x=>x∈vs∧Ok n x∧x.who=w) o f l) (hv:¬ (Ok n v∧v.who=w)):SeesW k (fun x=>x∈vs++[v]∧Ok n x∧x.who=w) o f l :=
  h.congr (fun x=>by
    simp only [List.mem_append,List.mem_singleton]
    constructor
    · rintro ⟨a,b⟩;exact ⟨.inl a,b⟩
    · rintro ⟨a | a,b⟩
      · exact ⟨a,b⟩
      · subst a;exact absurd b hv) fun _=>rfl
theorem TabS.Sees.take {vs:List Vote} {t:TabS} (h:t.Sees vs) (v:Vote):(t.take v).2.Sees (vs++[v]):=by
  obtain ⟨hw,hs⟩:=h
  refine ⟨hw.take v,fun w h0 hl=>?_⟩
  obtain ⟨es,el⟩:=t.take_slots v
  rw [el] at hl ⊢
  rw [es]
  have hsw:=hs w h0 hl
  have hlo:=hw.lo
  rcases TabS.take_cases t v hw with ⟨h1,h2⟩ | ⟨⟨h1,h2,h3,h4⟩,h5⟩
  · rw [h2]
    refine hsw.skip fun ⟨ho,_⟩=>?_
    rcases h1 with h1 | h1 | h1
    · rw [TabS.isV_iff.2 ⟨ho.1,ho.2.1⟩] at h1;cases h1
    · have:=ho.2.2.1;omega
    · have:=ho.2.2.2;omega
  · have hok:Ok t.latest.length v:=⟨h1,h2,h3,h4⟩
    by_cases hwho:v.who=w
    · subst hwho
      obtain ⟨V,hV⟩:∃ V:Vote→Prop,V=fun x=>x∈vs∧Ok t.latest.length x∧x.who=v.who:=⟨_,rfl⟩
      rw [←hV] at hsw
      have hmem:∀ x,(x∈vs++[v]∧Ok t.latest.length x∧x.who=v.who)↔(V x∨x=v):=fun x=>by
        rw [hV]
        simp only [List.mem_append,List.mem_singleton]
        constructor
        · rintro ⟨a | a,b⟩
          · exact .inl ⟨a,b⟩
          · exact .inr a
        · rintro (⟨a,b⟩ | a)
          · exact ⟨.inl a,b⟩
          · subst a;exact ⟨.inr rfl,hok,rfl⟩
      refine SeesW.congr (V:=fun x=>V x∨x=v) ?_ (fun x=>(hmem x).symm) (fun _=>rfl)
      clear hmem hV
      generalize hk:t.slots=k at *
      have hlt:v.who.toNat<t.latest.length:=by omega
      have hla:∀ {x},V x→t.latest.getD v.who.toNat none≠none:=fun hx e=>hsw.ha.1 e _ hx
      rcases h5 with ⟨h6,h7⟩ | ⟨h6,⟨r,h7,⟨h8,h9⟩ | ⟨h8,h9⟩⟩ | ⟨h7,⟨o,h8,h9,h10⟩ | ⟨h8,h9⟩⟩⟩
      · rw [h7,h6]
        obtain ⟨x,y,hx,hy,hxy⟩:=hsw.ou.1 h6
        refine ⟨⟨fun _=>⟨x,y,.inl hx,.inl hy,hxy⟩,fun _=>rfl⟩,fun h=>(by cases h),?_,fun h=>(by cases h)⟩
        exact ⟨fun e=>absurd e (hla hx),fun e=>absurd (.inl hx) (e x)⟩
      · subst h8
        rw [h9,h6]
        obtain ⟨x0,hx0,he0,ht0⟩:=(hsw.fi h6 _ _).1 h7
        have hno:∀ x,V x→x.slot / k=v.slot / k→x.target=v.target:=fun x hx he=>by
          have:=(hsw.fi h6 (v.slot / k) x.target).2 ⟨x,hx,he,rfl⟩
          rw [h7] at this;exact (Option.some.inj this).symm
        refine ⟨⟨fun h=>(by cases h),?_⟩,fun _ e r=>?_,⟨fun e=>absurd e (hla hx0),fun e=>absurd (.inl hx0) (e x0)⟩,fun _ y hy=>?_⟩
        · rintro ⟨x,y,hx,hy,he,hne⟩
          exfalso
          rcases hx with hx | rfl<;>rcases hy with hy | rfl
          · have:=hsw.ou.2 ⟨x,y,hx,hy,he,hne⟩
            rw [h6] at this;cases this
          · exact hne (hno x hx he)
          · exact hne (hno y hy he.symm).symm
          · exact hne rfl
        · rw [hsw.fi h6]
          constructor
          · rintro ⟨x,hx,hxx⟩;exact ⟨x,.inl hx,hxx⟩
          · rintro ⟨x,hx | rfl,hxx⟩
            · exact ⟨x,hx,hxx⟩
            · exact ⟨x0,hx0,he0.trans hxx.1,ht0.trans hxx.2⟩
        · obtain ⟨a,b⟩:=hsw.la h6 y hy
          refine ⟨.inl a,fun x hx=>?_⟩
          rcases hx with hx | rfl
          · exact b x hx
          · rw [←he0];exact b x0 hx0
      · rw [h9]
        obtain ⟨x0,hx0,he0,ht0⟩:=(hsw.fi h6 _ _).1 h7
        dsimp only
        rw [getD_set_self _ _ _ _ (by omega)]
        exact ⟨⟨fun _=>⟨x0,v,.inl hx0,.inr rfl,he0,fun e=>h8 (ht0.symm.trans e)⟩,fun _=>rfl⟩,fun h=>(by cases h),⟨fun e=>absurd e (hla hx0),fun e=>absurd (.inl hx0) (e x0)⟩,fun h=>(by cases h)⟩
      all_goals
        have hno:∀ x,V x→x.slot / k≠v.slot / k:=fun x hx he=>by
          have:=(hsw.fi h6 (v.slot / k) x.target).2 ⟨x,hx,he,rfl⟩
          rw [h7] at this;cases this
        have hou:(false:Bool)=true↔∃ x y,(V x∨x=v)∧(V y∨y=v)∧x.slot / k=y.slot / k∧x.target≠y.target:=by
          refine ⟨fun h=>(by cases h),?_⟩
          rintro ⟨x,y,hx,hy,he,hne⟩
          exfalso
          rcases hx with hx | rfl<;>rcases hy with hy | rfl
          · have:=hsw.ou.2 ⟨x,y,hx,hy,he,hne⟩
            rw [h6] at this;cases this
          · exact hno x hx he
          · exact hno y hy he.symm
          · exact hne rfl
        have hfi:∀ e r,look (t.first++[((v.who,v.slot / k),v.target)]) (v.who,e)=some r↔∃ x,(V x∨x=v)∧x.slot / k=e∧x.target=r:=fun e r=>by
          rw [look_append_one]
          by_cases he:v.slot / k=e
          · subst he
            rw [h7]
            simp only [if_true,Option.some.injEq]
            constructor
            · intro h;exact ⟨v,.inr rfl,rfl,h⟩
            · rintro ⟨x,hx | rfl,h1,h2⟩
              · exact absurd h1 (hno x hx)
              · exact h2
          · have hf:=hsw.fi h6 e r
            cases hl:look t.first (v.who,e) with
            | some r' =>
              rw [hl] at hf
              dsimp only
              rw [hf]
              constructor
              · rintro ⟨x,hx,h⟩;exact ⟨x,.inl hx,h⟩
              · rintro ⟨x,hx | rfl,h⟩
                · exact ⟨x,hx,h⟩
                · exact absurd h.1 he
            | none =>
              rw [hl] at hf
              dsimp only
              rw [if_neg (by simpa using he),hf]
              constructor
              · rintro ⟨x,hx,h⟩;exact ⟨x,.inl hx,h⟩
              · rintro ⟨x,hx | rfl,h⟩
                · exact ⟨x,hx,h⟩
                · exact absurd h.1 he
      · rw [h10]
        dsimp only
        rw [h6,h8]
        obtain ⟨a,b⟩:=hsw.la h6 o h8
        refine ⟨hou,fun _=>hfi,⟨fun e=>by (cases e),fun e=>absurd (.inr rfl) (e v)⟩,fun _ y hy=>?_⟩
        cases hy
        refine ⟨.inl a,fun x hx=>?_⟩
        rcases hx with hx | rfl
        · exact b x hx
        · exact Int.le_of_lt h9
      · rw [h9]
        dsimp only
        rw [h6,getD_set_self _ _ _ _ hlt]
        refine ⟨hou,fun _=>hfi,⟨fun e=>by (cases e),fun e=>absurd (.inr rfl) (e v)⟩,fun _ y hy=>?_⟩
        cases hy
        refine ⟨.inr rfl,fun x hx=>?_⟩
        rcases hx with hx | rfl
        · cases hg:t.latest.getD v.who.toNat none with
          | none=>exact absurd hg (hla hx)
          | some o=>exact Int.le_trans ((hsw.la h6 o hg).2 x hx) (h8 o hg)
        · exact Int.le_refl _
    · have hne:v.who.toNat≠w.toNat:=by omega
      have hlk:∀ e,look (t.first++[((v.who,v.slot / t.slots),v.target)]) (w,e)=look t.first (w,e):=fun e=>by
        rw [look_append_one]
        cases look t.first (w,e)<;>simp [hwho]
      refine SeesW.skip (v:=v) ?_ fun ⟨_,e⟩=>hwho e
      rcases h5 with ⟨h6,h7⟩ | ⟨h6,⟨r,h7,⟨h8,h9⟩ | ⟨h8,h9⟩⟩ | ⟨h7,⟨o,h8,h9,h10⟩ | ⟨h8,h9⟩⟩⟩
      · rw [h7];exact hsw
      · rw [h9];exact hsw
      · rw [h9];dsimp only;rw [getD_set_ne _ _ _ _ _ hne];exact hsw
      · rw [h10];dsimp only;exact hsw.congr (fun _=>Iff.rfl) fun e=>(hlk e).symm
      · rw [h9];dsimp only;rw [getD_set_ne _ _ _ _ _ hne];exact hsw.congr (fun _=>Iff.rfl) fun e=>(hlk e).symm
/-- the rows that TableOrder turns -/
def turned {α:Type} (L:List α) (k:Nat) (i:Nat):Nat:=L.length-1-(i+k) % L.length
def turnedTo (L:List Vote) (k:Nat) (m:Nat):List Vote:=(List.range m).map fun i=>L.getD (turned L k i) Vote.zero
theorem TabS.Sees.all {t:TabS} {vs:List Vote} (h:t.Sees vs) (xs:List Vote):(t.all xs).Sees (vs++xs):=by
  induction xs generalizing t vs with
  | nil=>simpa [TabS.all] using h
  | cons v r ih=>have:=ih (h.take v);simpa [TabS.all] using this
def numsL (q:Cfg) (n:Nat):List Int :=
  [q.epoch,32,q.committee,(if (n:Int)<16 then n else 16),q.nodes,256,q.orphans,64,q.early,64,q.quota,64,q.peers,16,q.bytes,256,q.window,64,q.ban,1048576,q.decay,1048576,(n:Int),64]
theorem nums_at (q:Cfg) (n j:Nat) (h:j<12) (h1:2*j<(numsL q n).length) (h2:2*j+1<(numsL q n).length) (h3:j<(numsC q n).length):(numsL q n)[2*j]=((numsC q n)[j]).1∧(numsL q n)[2*j+1]=((numsC q n)[j]).2:=by
  match j,h with
  | 0,_=>exact ⟨rfl,rfl⟩
  | 1,_=>exact ⟨rfl,rfl⟩
  | 2,_=>exact ⟨rfl,rfl⟩
  | 3,_=>exact ⟨rfl,rfl⟩
  | 4,_=>exact ⟨rfl,rfl⟩
  | 5,_=>exact ⟨rfl,rfl⟩
  | 6,_=>exact ⟨rfl,rfl⟩
  | 7,_=>exact ⟨rfl,rfl⟩
  | 8,_=>exact ⟨rfl,rfl⟩
  | 9,_=>exact ⟨rfl,rfl⟩
  | 10,_=>exact ⟨rfl,rfl⟩
  | 11,_=>exact ⟨rfl,rfl⟩
theorem contains_all (l:List Bool):(!l.contains false)=l.all id:=by
  induction l with
  | nil=>rfl
  | cons b r ih =>
    rw [List.all_cons,←ih]
    cases b<;>simp
theorem goodC_no {q:Cfg} {xs:List Val} {j:Nat} (hj:j<(numsC q xs.length).length) (h:inR (numsC q xs.length)[j]=false):goodC q xs=false:=by
  unfold goodC
  rw [Bool.and_eq_false_iff]
  right
  rw [List.all_eq_false]
  exact ⟨_,List.getElem_mem hj,by rw [h];simp⟩
theorem goodC_yes {q:Cfg} {xs:List Val} (h:∀ j (hj:j<(numsC q xs.length).length),inR (numsC q xs.length)[j]=true):goodC q xs=(totF 0 xs).isSome:=by
  unfold goodC
  have:(numsC q xs.length).all inR=true:=by
    rw [List.all_eq_true]
    intro x hx
    obtain ⟨j,hj,rfl⟩:=List.mem_iff_getElem.1 hx
    exact h j hj
  rw [this,Bool.and_true]
/-- what a configuration that can be is like -/
theorem goodC_rg {q:Cfg} {xs:List Val} (h:goodC q xs=true):(1≤q.epoch∧q.epoch≤32)∧(1≤xs.length∧xs.length≤64)∧(∀ v∈xs,valOK v=true):=by
  unfold goodC numsC inR at h
  simp at h
  refine ⟨by omega,by omega,?_⟩
  have h1:=h.1
  rw [totF_iff (by omega) (by omega)] at h1
  by_cases hc:(∀ v∈xs,valOK v=true)∧0+sumV xs<4611686018427387904
  · exact hc.1
  · rw [if_neg hc] at h1;simp at h1
/-- numbers,as bytes -/
def bytesA (l:List Int):List UInt8:=l.flatMap fun x=>putB (u64N x) 4
def bytesV (l:List Val):List UInt8:=l.flatMap fun v=>putB (u64N v.stake) 8++putB v.key.length 1++v.key
def nums12 (q:Cfg) (n:Nat):List Int:=[q.epoch,q.committee,q.nodes,q.orphans,q.early,q.quota,q.peers,q.bytes,q.window,q.ban,q.decay,(n:Int)]
def bytesC (q:Cfg) (xs:List Val):List UInt8:=bytesA (nums12 q xs.length)++bytesV xs
theorem bytesA_length (l:List Int):(bytesA l).length=4*l.length:=by
  induction l with
  | nil=>rfl
  | cons x r ih=>unfold bytesA at ih ⊢;rw [List.flatMap_cons,List.length_append,ih,putB_length,List.length_cons];omega
theorem bytesV_length {l:List Val} (h:∀ v∈l,v.key.length≤32):(bytesV l).length≤41*l.length:=by
  induction l with
  | nil=>exact Nat.le_refl _
  | cons x r ih =>
    have h1:=ih fun v hv=>h v (List.mem_cons_of_mem _ hv)
    have h2:=h x List.mem_cons_self
    unfold bytesV at h1 ⊢
    simp only [List.flatMap_cons,List.length_append,putB_length,List.length_cons] at h1 ⊢
    omega
theorem bytesA_succ (l:List Int) (i:Nat) (h:i<l.length):bytesA (l.take (i+1))=bytesA (l.take i)++putB (u64N l[i]) 4:=by
  unfold bytesA
  rw [List.take_add_one,List.getElem?_eq_getElem h,Option.toList_some,List.flatMap_append]
  simp
theorem bytesV_succ (l:List Val) (i:Nat) (h:i<l.length):bytesV (l.take (i+1))=bytesV (l.take i)++putB (u64N l[i].stake) 8++putB l[i].key.length 1++l[i].key:=by
  unfold bytesV
  rw [List.take_add_one,List.getElem?_eq_getElem h,Option.toList_some,List.flatMap_append]
  simp
def cfgL (V:SlV) (ns:List Int):List Value:=SlV.v V::ns.map (Value.int .i64)
def mx1 (x:Int):Int:=if x<1 then 1 else x
def lessL (ns ls:List Int) (i:Nat):List Int:=(List.range 11).map fun j=>if j<i then mx1 (ns.getD j 0-ls.getD j 0) else ns.getD j 0
def ptrs11 (b:Nat):List (Option Addr):=(List.range 11).map fun k=>some ⟨b,k+1,none⟩
def sameC (a b:Cfg) (xs ys:List Val):Bool:=decide (numsL a xs.length=numsL b ys.length) && decide (xs=ys)
theorem nums12_at (q:Cfg) (n j:Nat) (h:j<12) (h1:2*j<(numsL q n).length) (h3:j<(nums12 q n).length):(numsL q n)[2*j]=(nums12 q n)[j]:=by
  match j,h with
  | 0,_=>rfl
  | 1,_=>rfl
  | 2,_=>rfl
  | 3,_=>rfl
  | 4,_=>rfl
  | 5,_=>rfl
  | 6,_=>rfl
  | 7,_=>rfl
  | 8,_=>rfl
  | 9,_=>rfl
  | 10,_=>rfl
  | 11,_=>rfl
def stk (vs:List Val) (w:Nat):Int:=(vs.getD w Val.zero).stake
theorem stk_get {vs:List Val} {w:Nat} (h:w<vs.length):stk vs w=vs[w].stake:=by simp [stk,List.getD_eq_getElem?_getD,h]
/-- for what a validator stands: its latest vote's block,if it counts -/
def effT (tb:TabS) (w:Nat):Option Root:=if tb.counts (w:Int)=true then (tb.vote (w:Int)).map (·.target) else none
def shareE (vs:List Val) (E:Nat→Option Root) (r:Root) (w:Nat):Int:=if E w=some r then stk vs w else 0
def allE (vs:List Val) (E:Nat→Option Root) (r:Root):Int:=sg (shareE vs E r) vs.length
def ownE (vs:List Val) (E:Nat→Option Root) (ns:List Node):List Int:=tab ns.length fun i=>allE vs E (rtA ns i)
structure StkOK (vs:List Val):Prop where
  nn:∀ w,0≤stk vs w
  tt:sg (stk vs) vs.length<4611686018427387904
def inE (ns:List Node) (E:Nat→Option Root) (w:Nat):Bool:=match E w with | some r=>(idxOf ns r).isSome | none=>false
def updE (E:Nat→Option Root) (w:Nat) (x:Option Root):Nat→Option Root:=fun k=>if k=w then x else E k
section
variable {vs:List Val} {E E':Nat→Option Root} {ns:List Node} {r:Root} {w i k:Nat}
theorem place_idx {t:TreeS}:(idxOf t.nodes r=none∧t.place r=-1)∨∃ a,idxOf t.nodes r=some a∧t.place r=(a:Int)∧a<t.nodes.length∧rtA t.nodes a=r:=by
  unfold TreeS.place
  cases h:idxOf t.nodes r with
  | none=>exact .inl ⟨rfl,rfl⟩
  | some a =>
    obtain ⟨n,h2,h3⟩:=idxOf_some h
    exact .inr ⟨a,rfl,rfl,idxOf_lt h,by unfold rtA;rw [h2];exact h3⟩
theorem sg_swap (f:Nat→Nat→Int) (n m:Nat):sg (fun i=>sg (f i) m) n=sg (fun w=>sg (fun i=>f i w) n) m:=by
  induction n with
  | zero=>exact (sg_zero fun _ _=>rfl).symm
  | succ n ih =>
    rw [sg_succ,ih,←sg_add]
    exact sg_congr fun j _=>rfl
theorem ownE_len (vs:List Val) (E:Nat→Option Root) (ns:List Node):(ownE vs E ns).length=ns.length:=tab_len _ _
theorem ownE_at (h:i<ns.length):oA (ownE vs E ns) i=allE vs E (rtA ns i):=tab_oA h
theorem share_nn (h:StkOK vs):0≤shareE vs E r w:=by unfold shareE;split;exact h.nn w;exact Int.le_refl _
theorem share_le (h:StkOK vs):shareE vs E r w≤stk vs w:=by
  unfold shareE;split
  · exact Int.le_refl _
  · exact h.nn w
theorem all_nn (h:StkOK vs):0≤allE vs E r:=sg_nonneg fun _ _=>share_nn h
theorem all_le (h:StkOK vs):allE vs E r≤sg (stk vs) vs.length:=sg_le fun _ _=>share_le h
theorem tot_ownE {t:TreeS} (hw:t.WF):tot (ownE vs E t.nodes)=sg (fun w=>if inE t.nodes E w=true then stk vs w else 0) vs.length:=by
  unfold tot
  rw [ownE_len]
  have h1:sg (oA (ownE vs E t.nodes)) t.nodes.length=sg (fun i=>sg ((fun i=>shareE vs E (rtA t.nodes i)) i) vs.length) t.nodes.length:=sg_congr fun i hi=>ownE_at hi
  rw [h1,sg_swap]
  refine sg_congr fun w _=>?_
  unfold shareE
  cases hE:E w with
  | none =>
    have hin:inE t.nodes E w=false:=by unfold inE;rw [hE]
    rw [hin,if_neg (by simp)];exact sg_zero fun i _=>by rw [if_neg (by simp)]
  | some r =>
    have hin:inE t.nodes E w=(idxOf t.nodes r).isSome:=by unfold inE;rw [hE]
    rw [hin]
    rcases place_idx (t:=t) (r:=r) with ⟨hr,_⟩ | ⟨a,hr,_,ha,hra⟩
    · rw [hr,if_neg (by simp)]
      refine sg_zero fun i hi=>?_
      rw [if_neg]
      intro q
      have:r=rtA t.nodes i:=Option.some.inj q
      subst this
      rw [idx_rt hw hi] at hr;cases hr
    · rw [hr,if_pos (by simp)]
      have h4:sg (fun i=>if some r=some (rtA t.nodes i) then stk vs w else 0) t.nodes.length=sg (fun i=>if i=a then stk vs w else 0) t.nodes.length:=by
        refine sg_congr fun i hi=>?_
        by_cases e:i=a
        · subst e;rw [if_pos rfl,if_pos (by rw [hra])]
        · rw [if_neg e,if_neg]
          intro q
          have q2:r=rtA t.nodes i:=Option.some.inj q
          exact e (rtA_inj hw.nd hi ha (by rw [hra,←q2]))
      rw [h4,sg_one,if_pos ha]
theorem ownE_ok (h:StkOK vs) {t:TreeS} (hw:t.WF):OwnOK (ownE vs E t.nodes):=by
  refine ⟨fun j=>?_,?_⟩
  · rcases Nat.lt_or_ge j t.nodes.length with hj | hj
    · rw [ownE_at hj];exact all_nn h
    · rw [oA_out (by rw [ownE_len];exact hj)];exact Int.le_refl _
  · rw [tot_ownE hw]
    have h1:sg (fun w=>if inE t.nodes E w=true then stk vs w else 0) vs.length≤sg (stk vs) vs.length:=sg_le fun w _=>by
      split
      · exact Int.le_refl _
      · exact h.nn w
    have:=h.tt
    omega
/-- so much more,or less,of one -/
theorem apply_d {t:TreeS} (hw:t.WF) {o:List Int} (ho:OwnOK o) (hl:o.length=t.nodes.length) {a:Nat} (ha:a<t.nodes.length) {d:Int} (h0:0≤oA o a+d) (h1:tot o+d<4611686018427387904) (h2:-4611686018427387904<d) (h3:d<4611686018427387904) :
    applyO t.nodes o [⟨rtA t.nodes a,d⟩]=(0,o.set a (oA o a+d)):=by
  have hle:oA o a≤tot o:=sg_get (f:=oA o) (m:=o.length) (fun j _=>ho.nn j) (i:=a) (by omega)
  have e1:tot (o.set a (oA o a+d))=tot o+d:=by rw [tot_set (by omega)];omega
  have hs:stepO t.nodes o ⟨rtA t.nodes a,d⟩=(0,o.set a (oA o a+d)):=stepO_in (i:=a) (idx_rt hw ha) (by show ¬ (d≤_∨_≤d);omega) (by show ¬ (oA o a+d<0∨_≤oA o a+d);omega)
  have hr:runO t.nodes o [⟨rtA t.nodes a,d⟩]=(0,o.set a (oA o a+d)):=by
    show (if (stepO t.nodes o ⟨rtA t.nodes a,d⟩).1=0 then runO t.nodes (stepO t.nodes o ⟨rtA t.nodes a,d⟩).2 [] else _)=_
    rw [hs,if_pos rfl];rfl
  unfold applyO
  dsimp only
  rw [growO_same hl,hr,if_pos rfl,if_pos (by dsimp only;rw [e1];exact h1)]
def putO (t:TreeS) (o:List Int) (r:Root) (n:Int):List Int:=if t.place r<0 then o else (applyO t.nodes o [⟨r,n⟩]).2
/-- a block more -/
theorem add_ownE (hs:StkOK vs) {t:TreeS} (hw:t.WF) {p:Root} {slot:Int} (h:(t.add r p slot).1=0):applyO (t.add r p slot).2.nodes (ownE vs E t.nodes) [⟨r,allE vs E r⟩]=(0,ownE vs E (t.add r p slot).2.nodes):=by
  have hw2:=hw.add r p slot
  have hx:∃ x:Node,x.root=r∧(t.add r p slot).2.nodes=t.nodes++[x]:=by
    rcases TreeS.add_cases t r p slot with h1
    unfold TreeS.add at h ⊢
    split at h
    · cases h
    · rename_i h3
      rw [if_neg h3]
      split at h
      · cases h
      · split at h
        · cases h
        · split at h
          · cases h
          · rename_i j hj h5 h6
            exact ⟨⟨r,slot,(j:Int)⟩,rfl,by rw [if_neg h5,if_neg h6]⟩
  obtain ⟨x,hx1,hx2⟩:=hx
  have hl2:(t.add r p slot).2.nodes.length=t.nodes.length+1:=by rw [hx2];simp
  have hrn:rtA (t.add r p slot).2.nodes t.nodes.length=r:=by unfold rtA;rw [hx2];simp [hx1]
  have hrt:∀ i,i<t.nodes.length→rtA (t.add r p slot).2.nodes i=rtA t.nodes i:=fun i hi=>by rw [hx2];exact rtA_app hi
  rw [applyO_grow _ _ _ (by rw [ownE_len];omega)]
  have hgl:(growO (t.add r p slot).2.nodes.length (ownE vs E t.nodes)).length=(t.add r p slot).2.nodes.length:=growO_len (by rw [ownE_len];omega)
  have hset:(growO (t.add r p slot).2.nodes.length (ownE vs E t.nodes)).set t.nodes.length (oA (growO (t.add r p slot).2.nodes.length (ownE vs E t.nodes)) t.nodes.length+allE vs E r)=ownE vs E (t.add r p slot).2.nodes:=by
    refine oA_ext (by rw [List.length_set,hgl,ownE_len]) fun j=>?_
    rw [oA_set (by rw [hgl];omega)]
    by_cases e:j=t.nodes.length
    · subst e
      rw [if_pos rfl,grow_oA,oA_out (by rw [ownE_len];exact Nat.le_refl _),ownE_at (by omega),hrn];omega
    · rw [if_neg e,grow_oA]
      rcases Nat.lt_or_ge j t.nodes.length with hj | hj
      · rw [ownE_at hj,ownE_at (by omega),hrt j hj]
      · rw [oA_out (by rw [ownE_len];exact hj),oA_out (by rw [ownE_len];omega)]
  have hok:=ownE_ok (E:=E) hs hw2
  have hal:=all_le (E:=E) (r:=r) hs
  have haln:=all_nn (E:=E) (r:=r) hs
  have htt:=hs.tt
  have h6:tot (growO (t.add r p slot).2.nodes.length (ownE vs E t.nodes))+allE vs E r<4611686018427387904:=by
    have h7:=hok.tt
    rw [←hset,tot_set (by rw [hgl];omega)] at h7
    omega
  have h8:oA (growO (t.add r p slot).2.nodes.length (ownE vs E t.nodes)) t.nodes.length=0:=by rw [grow_oA,oA_out (by rw [ownE_len];exact Nat.le_refl _)]
  have:=apply_d hw2 ((ownE_ok (E:=E) hs hw).zeros _) hgl (a:=t.nodes.length) (by omega) (d:=allE vs E r) (by show 0≤oA (growO _ _) _+_;omega) h6 (by omega) (by omega)
  rw [hrn] at this
  rw [←hset];exact this
theorem new_eff {n:Nat} {sl:Int}:effT (TabS.new n sl)=fun _=>none:=by
  funext k
  unfold effT TabS.vote
  split
  · split
    · simp [TabS.new,List.getD_eq_getElem?_getD,List.getElem?_replicate];split<;>rfl
    · rfl
  · rfl
theorem ownE_none (ns:List Node):ownE vs (fun _=>none) ns=growO ns.length []:=by
  refine oA_ext (by rw [ownE_len,growO_len (Nat.zero_le _)]) fun j=>?_
  rw [grow_oA,oA_out (o:=([]:List Int)) (Nat.zero_le _)]
  rcases Nat.lt_or_ge j ns.length with hj | hj
  · rw [ownE_at hj];exact sg_zero fun w _=>by unfold shareE;rw [if_neg (by simp)]
  · rw [oA_out (by rw [ownE_len];exact hj)]
end
structure BookS where
  t:TreeS
  tb:TabS
def bName (g:Root) (n:Int):Root:=if n=0 then g else nameR n
/-- a vote is unknown: its block isn't there,or is of a later slot -/
def unkB (t:TreeS) (v:Vote):Bool:=match idxOf t.nodes v.target with | some i=>decide (v.slot<slA t.nodes i) | none=>true
def BookS.take (b:BookS) (v:Vote):Int×TabS:=if unkB b.t v=true then (6,b.tb) else b.tb.take v
def keepT (t:TreeS) (r:Root):Int×TreeS:=match idxOf t.nodes r with | some a=>(0,prT t a) | none=>(7,t)
def stepB (g:Root) (b:BookS) (a:VAct):BookS :=
  if a.kind=0 then { b with t:=(b.t.add (bName g a.root) (bName g a.parent) a.slot).2 }
  else if a.kind=1 then { b with tb:=(b.take ⟨a.who,a.slot,bName g a.root⟩).2 }
  else if a.kind=2 then { b with t:=(keepT b.t (bName g a.root)).2 }
  else { b with tb:=b.tb.forget a.slot }
def newB (g:Root) (nodes:Int) (n:Nat) (ep:Int):BookS:=⟨TreeS.new g 0 nodes,TabS.new n ep⟩
def runB (b0:BookS) (g:Root) (xs:List VAct):BookS:=xs.foldl (stepB g) b0
theorem runB_succ {b0:BookS} {g:Root} {xs:List VAct} {i:Nat} (h:i<xs.length):runB b0 g (xs.take (i+1))=stepB g (runB b0 g (xs.take i)) xs[i]:=by
  unfold runB
  rw [List.take_succ_eq_append_getElem h,List.foldl_append]
  rfl
structure OKB (n:Nat) (b:BookS):Prop where
  wf:b.t.WF
  tw:b.tb.WF
  ln:b.tb.latest.length=n
theorem OKB.take {n:Nat} {b:BookS} (h:OKB n b) (v:Vote):OKB n { b with tb:=(b.take v).2 }:=by
  unfold BookS.take
  split
  · exact ⟨h.wf,h.tw,h.ln⟩
  · exact ⟨h.wf,h.tw.take v,by show (b.tb.take v).2.latest.length=n;rw [(TabS.take_slots b.tb v).2];exact h.ln⟩
theorem keepT_wf {t:TreeS} (h:t.WF) (r:Root):(keepT t r).2.WF:=by
  unfold keepT
  split
  · rename_i a ha;exact prT_wf h (idxOf_lt ha)
  · exact h
theorem OKB.step {n:Nat} {b:BookS} {g:Root} (h:OKB n b) (a:VAct):OKB n (stepB g b a):=by
  unfold stepB
  split
  · exact ⟨h.wf.add _ _ _,h.tw,h.ln⟩
  · split
    · exact h.take _
    · split
      · exact ⟨keepT_wf h.wf _,h.tw,h.ln⟩
      · exact ⟨h.wf,h.tw.forget _,by show (b.tb.forget a.slot).latest.length=n;rw [(TabS.forget_slots b.tb a.slot).2.1];exact h.ln⟩
theorem OKB.run {n:Nat} {b0:BookS} {g:Root} (h0:OKB n b0) (xs:List VAct):OKB n (runB b0 g xs):=by
  have key:∀ m,m≤xs.length→OKB n (runB b0 g (xs.take m)):=by
    intro m
    induction m with
    | zero=>intro _;exact h0
    | succ m ih=>intro hm;rw [runB_succ (by omega)];exact (ih (by omega)).step _
  have:=key xs.length (Nat.le_refl _)
  rwa [List.take_length] at this
theorem OKB.new {g:Root} {nodes ep:Int} {n:Nat} (h1:1≤nodes) (h2:nodes≤256) (h3:n≤64) (h4:1≤ep) (h5:ep≤32):OKB n (newB g nodes n ep) :=
  ⟨TreeS.WF.new h1 h2 (by decide) (by decide),TabS.WF.new h3 h4 h5,by simp [newB,TabS.new]⟩
/-- own weights,of a book -/
def ownB (vs:List Val) (b:BookS):List Int:=ownE vs (effT b.tb) b.t.nodes
def cntE (vs:List Val) (p:Nat→Bool) (k:Nat):Int:=sg (fun w=>if p w=true then stk vs w else 0) k
/-- votes,of a book whose blocks stay -/
def runV (t:TreeS) (tb:TabS) (xs:List Vote):TabS:=xs.foldl (fun tb v=>(BookS.take ⟨t,tb⟩ v).2) tb
theorem goodC_bd {V:SlV} {a0 a1 a2 a3 a4 a5 a6 a7 a8 a9 a10:Int} {xs:List Val} (h:goodC ⟨V,a0,a1,a2,a3,a4,a5,a6,a7,a8,a9,a10⟩ xs=true) :
    ((1≤a0∧a0≤32)∧(1≤a1∧a1≤16∧a1≤xs.length)∧(1≤a2∧a2≤256)∧(1≤a3∧a3≤64)∧(1≤a4∧a4≤64)∧(1≤a5∧a5≤64))∧((1≤a6∧a6≤16)∧(1≤a7∧a7≤256)∧(1≤a8∧a8≤64)∧(1≤a9∧a9≤1048576)∧(1≤a10∧a10≤1048576))∧(1≤xs.length∧xs.length≤64)∧(∀ y∈xs,y.key.length≤32):=by
  have hv:=(goodC_rg h).2.2
  unfold goodC numsC inR at h
  simp at h
  refine ⟨by omega,by omega,by omega,fun y hy=>?_⟩
  have:=hv y hy
  unfold valOK at this
  have:=of_decide_eq_true this
  exact this.2.2
theorem sg_stk (xs:List Val):∀ k,k≤xs.length→sg (stk xs) k=sumV (xs.take k):=by
  intro k
  induction k with
  | zero=>intro _;rfl
  | succ k ih =>
    intro hk
    rw [sg_succ,ih (by omega),List.take_succ_eq_append_getElem (by omega),sumV_append,stk_get (by omega)]
    simp [sumV]
theorem goodC_stk {q:Cfg} {xs:List Val} (h:goodC q xs=true):StkOK xs:=by
  have h1:(totF 0 xs).isSome=true:=by unfold goodC at h;rw [Bool.and_eq_true] at h;exact h.1
  have h2:=totF_iff (xs:=xs) (s:=0) (by decide) (by decide)
  have h3:(∀ v∈xs,valOK v=true)∧0+sumV xs<4611686018427387904:=by
    by_cases e:(∀ v∈xs,valOK v=true)∧0+sumV xs<4611686018427387904
    · exact e
    · rw [if_neg e] at h2;rw [h2] at h1;cases h1
  refine ⟨fun w=>?_,?_⟩
  · rcases Nat.lt_or_ge w xs.length with hw | hw
    · rw [stk_get hw]
      have:=h3.1 _ (List.getElem_mem hw)
      unfold valOK at this
      exact (of_decide_eq_true this).1
    · unfold stk
      rw [List.getD_eq_getElem?_getD,List.getElem?_eq_none hw]
      show (0:Int)≤0
      omega
  · rw [sg_stk xs _ (Nat.le_refl _),List.take_length];have:=h3.2;omega
theorem newB_own {xs:List Val} {g:Root} {nodes ep:Int} {n:Nat}:ownE xs (effT (TabS.new n ep)) (TreeS.new g 0 nodes).nodes=growO (TreeS.new g 0 nodes).nodes.length []:=by
  rw [new_eff];exact ownE_none _
section
variable {vs:List Val} {E:Nat→Option Root} {ns:List Node} {g:Root} {b:BookS} {a:VAct}
def ownK (vs:List Val) (E:Nat→Option Root) (ns:List Node) (k:Nat):List Int:=tab ns.length fun i=>sg (shareE vs E (rtA ns i)) k
end
def alQ:Cfg:=⟨⟨none,1,1⟩,4,1,9,1,1,1,1,1,1,1,1⟩
def alX:List Val:=[⟨5,[107]⟩]
def alF:Root:=shaM ([116,111,108,108,101,114]++bytesC alQ alX)
def alB0:BookS:=⟨TreeS.new alF 0 9,TabS.new alX.length 4⟩
def alB1:BookS:=⟨(alB0.t.add (nameR 1) alF 2).2,alB0.tb⟩
def alB2:BookS:=⟨alB1.t,(alB1.take ⟨0,2,nameR 1⟩).2⟩
section
variable {vs:List Val} {g:Root} {b:BookS} {k:Int} {xs L:List VAct} {i q n:Nat} {ep:Int}
def kA (k:Int) (a:VAct):VAct:={ a with kind:=k }
def voteA (g:Root) (a:VAct):Vote:=⟨a.who,a.slot,bName g a.root⟩
def kL (k:Int) (xs:List VAct):List VAct:=xs.map (kA k)
def turnL (L:List VAct) (q:Nat):List VAct:=(List.range L.length).map fun i=>L.getD (turned L q i) VAct.zero
end
structure GA where
  g:Nat
  ck:Nat
  bk:Nat
  tr:Nat
  w:Nat
  tb:Nat
  or:Nat
  po:Nat
  ea:Nat
  pq:Nat
  pe:Nat
  mp:Nat
  a:Option Addr
  c:Nat
structure ChD where
  r:Nat→Root
  mb:Nat→Int
  tg:Nat→Tag
  peer:Int
def ChD.txt (D:ChD) (k:Nat):List UInt8:=txtB (k:Int) (D.r (k-1)) (D.mb k) (D.tg k)
def ChD.it (D:ChD) (k:Nat):PItem:=⟨(k:Int),D.r k,D.peer,D.r (k-1),D.txt k⟩
def nodeP (D:ChD) (i:Nat):Node:=⟨D.r i,(i:Int),(i:Int)-1⟩
def pathT (D:ChD) (most:Int) (j:Nat):TreeS:=⟨(List.range (j+1)).map (nodeP D),most⟩
def ChD.Inj (D:ChD) (n:Nat):Prop:=∀ i j,i≤n→j≤n→D.r i=D.r j→i=j
def SignedB (xs:List Val) (n2 sl:Int) (tg:Root) (mb:Int) (tag:Tag):Prop:=GoodB sl mb∧tagM xs n2 1 sl tg mb 0 []=(tag,true)
structure ChD.OK (D:ChD) (xs:List Val) (n2:Int) (n:Nat):Prop where
  rt:∀ k,1≤k→k≤n→D.r k=rtB (k:Int) (D.r (k-1)) (D.mb k) (D.tg k)
  sg:∀ k,1≤k→k≤n→SignedB xs n2 (k:Int) (D.r (k-1)) (D.mb k) (D.tg k)
  inj:D.Inj n
  n30:n≤30
section
variable {D:ChD} {n:Nat} {most:Int}
theorem path_len (j:Nat):(pathT D most j).nodes.length=j+1:=by unfold pathT;simp
theorem path_get {i j:Nat} (h:i≤j):(pathT D most j).nodes[i]? = some (nodeP D i):=by unfold pathT;rw [List.getElem?_map,List.getElem?_range (by omega)];rfl
theorem path_rt {i j:Nat} (h:i≤j):rtA (pathT D most j).nodes i=D.r i:=by unfold rtA;rw [path_get h];rfl
theorem path_mem {j:Nat} {x:Node} (h:x∈(pathT D most j).nodes):∃ i,i≤j∧x=nodeP D i:=by
  obtain ⟨i,h1,h2⟩:=List.mem_map.1 h
  exact ⟨i,by have:=List.mem_range.1 h1;omega,h2.symm⟩
theorem path_nd (hi:D.Inj n) {j:Nat} (hj:j≤n):((pathT D most j).nodes.map (·.root)).Nodup:=by
  unfold pathT
  rw [List.map_map]
  unfold List.Nodup
  rw [List.pairwise_map]
  refine (List.nodup_range (n:=j+1)).imp_of_mem fun {a b} ha hb hne he=>hne (hi a b ?_ ?_ he)
  · have:=List.mem_range.1 ha;omega
  · have:=List.mem_range.1 hb;omega
theorem path_idx (hi:D.Inj n) {i j:Nat} (h:i≤j) (hj:j≤n):idxOf (pathT D most j).nodes (D.r i)=some i :=
  idxOf_get (n:=nodeP D i) (path_nd hi hj) (path_get h)
theorem path_idx_no (hi:D.Inj n) {i j:Nat} (h:j<i) (hj:i≤n):idxOf (pathT D most j).nodes (D.r i)=none:=by
  rw [idxOf_none]
  intro x hx he
  obtain ⟨q,h1,rfl⟩:=path_mem hx
  have:=hi q i (by omega) hj he
  omega
theorem path_place (hi:D.Inj n) {i j:Nat} (h:i≤j) (hj:j≤n):(pathT D most j).place (D.r i)=i:=by unfold TreeS.place;rw [path_idx hi h hj]
theorem path_place_no (hi:D.Inj n) {i j:Nat} (h:j<i) (hj:i≤n):(pathT D most j).place (D.r i)=-1:=by unfold TreeS.place;rw [path_idx_no hi h hj]
theorem path_node {i j:Nat} (h:i≤j):(pathT D most j).node (i:Int)=some (nodeP D i):=by
  unfold TreeS.node;rw [if_pos (by omega)];exact path_get h
theorem path_node_no (t:TreeS):t.node (-1)=none:=rfl
theorem path_add (hi:D.Inj n) {j:Nat} (hj:j+1≤n) (hn:n≤30) (hm:(j:Int)+1<most):(pathT D most j).add (D.r (j+1)) (D.r j) ((j+1:Nat):Int)=(0,pathT D most (j+1)):=by
  unfold TreeS.add
  rw [path_idx_no hi (Nat.lt_succ_self j) hj,path_idx hi (Nat.le_refl j) (by omega)]
  simp only [Option.isSome_none,Bool.false_eq_true,if_false]
  rw [path_get (Nat.le_refl j)]
  rw [if_neg (by simp only [Option.getD_some,nodeP];omega),if_neg (by rw [path_len];simp only [pathT];omega)]
  congr 1
  unfold pathT
  simp only
  congr 1
  rw [List.range_succ (n:=j+1),List.map_append]
  congr 1
  simp [nodeP]
/-- the orphans lo,..,lo+m-1 -/
def rangeIt (D:ChD) (lo m:Nat):List PItem:=(List.range m).map fun i=>D.it (lo+i)
theorem range_len (lo m:Nat):(rangeIt D lo m).length=m:=by unfold rangeIt;simp
theorem range_mem {lo m:Nat} {x:PItem} (h:x∈rangeIt D lo m):∃ k,lo≤k∧k<lo+m∧x=D.it k:=by
  obtain ⟨i,h1,h2⟩:=List.mem_map.1 h
  exact ⟨lo+i,by omega,by have:=List.mem_range.1 h1;omega,h2.symm⟩
theorem range_cons (lo m:Nat):D.it lo::rangeIt D (lo+1) m=rangeIt D lo (m+1):=by
  unfold rangeIt
  rw [List.range_succ_eq_map,List.map_cons,List.map_map]
  congr 1
  apply List.map_congr_left
  intro i _
  show D.it (lo+1+i)=D.it (lo+(i+1))
  congr 1;omega
theorem range_cnt (p:Int) (lo m:Nat):cntP p (rangeIt D lo m)≤m:=by have:=cntP_le p (rangeIt D lo m);rw [range_len] at this;exact this
theorem range_no (hi:D.Inj n) {lo m b:Nat} (hb:b≤n) (hm:lo+m≤n+1) (h:b<lo∨lo+m≤b):∀ y∈rangeIt D lo m,y.root≠D.r b:=by
  intro y hy he
  obtain ⟨k,h1,h2,rfl⟩:=range_mem hy
  have:=hi k b (by omega) hb he
  omega
theorem range_yes (hi:D.Inj n) {lo m:Nat} (h0:1≤lo) (hm:lo+m≤n+1):(rangeIt D lo m).filter (fun y=>decide (y.par=D.r (lo-1)))=if m=0 then [] else [D.it lo]:=by
  cases m with
  | zero=>rfl
  | succ m =>
    rw [←range_cons,List.filter_cons_of_pos (by simp [ChD.it]),if_neg (by omega),List.filter_eq_nil_iff.2]
    intro x hx
    obtain ⟨k,h1,h2,rfl⟩:=range_mem hx
    intro he
    have:=hi (k-1) (lo-1) (by omega) (by omega) (of_decide_eq_true he)
    omega
theorem range_not (hi:D.Inj n) {lo m:Nat} (h0:1≤lo) (hm:lo+m≤n+1):(rangeIt D lo m).filter (fun y=>!decide (y.par=D.r (lo-1)))=rangeIt D (lo+1) (m-1):=by
  cases m with
  | zero=>rfl
  | succ m =>
    rw [←range_cons,List.filter_cons_of_neg (by simp [ChD.it]),Nat.add_sub_cancel]
    rw [List.filter_eq_self.2]
    intro x hx
    obtain ⟨k,h1,h2,rfl⟩:=range_mem hx
    rw [Bool.not_eq_true']
    refine decide_eq_false fun he=>?_
    have:=hi (k-1) (lo-1) (by omega) (by omega) he
    omega
theorem ChD.OK.isB {xs:List Val} {n2:Int} (h:D.OK xs n2 n) {lo m:Nat} (h0:1≤lo) (hm:lo+m≤n+1):∀ x∈rangeIt D lo m,IsB x:=by
  intro x hx
  obtain ⟨k,h1,h2,rfl⟩:=range_mem hx
  obtain ⟨hg,_⟩:=h.sg k (by omega) (by omega)
  refine ⟨D.mb k,D.tg k,?_,decB _ _ hg⟩
  show (txtB _ _ _ _).length≤1000
  rw [txtB_len];omega
end
end Go.SL
set_option linter.unusedVariables false
set_option linter.unusedSimpArgs false
set_option linter.unusedSectionVars false
set_option maxHeartbeats 1000000
set_option maxRecDepth 100000
namespace Go.SL
open Go.Proofs
theorem grow_calls {w0 w:World} {l:List HProp} (pw pt:Nat) (t:TreeS) (o sm be lf:List Int) (hs:Sat w0 w ((TreeObj pt t)::(WRaw pw pt o sm be lf)::l)) (h1:o.length≤t.nodes.length) (h2:sm.length≤256) (h3:be.length≤256) (h4:lf.length≤256) :
  Calls Tryz.prog 143 #[.pointer (some ⟨pw,0,none⟩)] w (Ret w0 fun v l'=>v=.tuple #[]∧l'=TreeObj pt t::WRaw pw pt (growO t.nodes.length o) (sm++List.replicate (t.nodes.length-o.length) 0) (be++List.replicate (t.nodes.length-o.length) (-1)) (lf++List.replicate (t.nodes.length-o.length) (-1))::l):=by
 have hw:=hs.treeWF
 have hm1:=hw.m1;have hm2:=hw.m2;have hle:=hw.le;have hne:=hw.ne;have hpa:=hw.pa;have hnd:=hw.nd
 obtain ⟨a1,c1,a2,c2,a3,c3,a4,c4,hs⟩:=(hs.pull 1).wrawOpen
 refine calls_enter Tryz.func143 rfl rfl rfl hs ?_
 refine R1 ?_
 refine cd_pull4 ?_
 refine cd_pull4 ?_
 refine cd_pull4 ?_
 refine cd_pull4 ?_
 refine cd_pull4 ?_
 refine cd_loop2 (α:=Nat×Option Addr×Nat×Option Addr×Nat×Option Addr×Nat×Option Addr×Nat) [(2,48)] (fun x=>[]) (fun x=>Blk pw (.cells #[.pointer (some ⟨pt,0,none⟩),.slice x.2.1 (o++List.replicate x.1 (0)).length x.2.2.1,.slice x.2.2.2.1 (sm++List.replicate x.1 (0)).length x.2.2.2.2.1,.slice x.2.2.2.2.2.1 (be++List.replicate x.1 (-1)).length x.2.2.2.2.2.2.1,.slice x.2.2.2.2.2.2.2.1 (lf++List.replicate x.1 (-1)).length x.2.2.2.2.2.2.2.2] 251 (0,0))::Row 3 encI64 (.slice x.2.1 (o++List.replicate x.1 (0)).length x.2.2.1) (o++List.replicate x.1 (0))::Row 3 encI64 (.slice x.2.2.2.1 (sm++List.replicate x.1 (0)).length x.2.2.2.2.1) (sm++List.replicate x.1 (0))::Row 3 encI64 (.slice x.2.2.2.2.2.1 (be++List.replicate x.1 (-1)).length x.2.2.2.2.2.2.1) (be++List.replicate x.1 (-1))::Row 3 encI64 (.slice x.2.2.2.2.2.2.2.1 (lf++List.replicate x.1 (-1)).length x.2.2.2.2.2.2.2.2) (lf++List.replicate x.1 (-1))::_) (fun x=>x.1≤(t.nodes.length-o.length)) (fun x=>(t.nodes.length-o.length)-x.1) (0,a1,c1,a2,c2,a3,c3,a4,c4) (Nat.zero_le _) trivial (fun _ s=>by (try dsimp only);simp only [List.replicate_zero,List.append_nil];exact s) ?_
 rintro ⟨i,b1,d1,b2,d2,b3,d3,b4,d4⟩ hi f;(try dsimp only at hi ⊢)
 refine R1 ?_
 refine cd_pull5 ?_
 refine R1 ?_
 refine cd_draw (M:=[_]) mx [9] (by kernel_rfl) ?_
 refine R4 ?_
 refine rg_q (wn_none rfl) (op_len_slice Tryz.underlying39 rfl) rfl rfl ?_
 refine R4 ?_
 refine rg_i (wn_none rfl) (os_call cb_54 rfl (fun w s=>Len_calls _ _  s )) rfl rfl ?_;rintro _ _ ⟨rfl,rfl⟩;refine ⟨[_],rfl,?_⟩
 refine Z2y ?_
 refine Z4 ?_ ?_
 ·intro hb1 hp1
  have hi1:i<(t.nodes.length-o.length):=by rw [List.length_append,List.length_replicate] at hp1;omega
  refine R3 ?_
  refine cd_cut (α:=Option Addr×Nat×Option Addr×Nat) [(13,30)] (fun y=>[]) (fun y=>Blk pw (.cells #[.pointer (some ⟨pt,0,none⟩),.slice y.1 (o++List.replicate (i+1) (0)).length y.2.1,.slice y.2.2.1 (sm++List.replicate (i+1) (0)).length y.2.2.2,.slice b3 (be++List.replicate i (-1)).length d3,.slice b4 (lf++List.replicate i (-1)).length d4] 251 (0,0))::Row 3 encI64 (.slice y.1 (o++List.replicate (i+1) (0)).length y.2.1) (o++List.replicate (i+1) (0))::Row 3 encI64 (.slice y.2.2.1 (sm++List.replicate (i+1) (0)).length y.2.2.2) (sm++List.replicate (i+1) (0))::Row 3 encI64 (.slice b3 (be++List.replicate i (-1)).length d3) (be++List.replicate i (-1))::Row 3 encI64 (.slice b4 (lf++List.replicate i (-1)).length d4) (lf++List.replicate i (-1))::TreeObj pt t::l) ?_ ?_
  ·
   refine cd_pull3 ?_
   refine cd_pull3 ?_
   refine cd_pull3 ?_
   refine cd_drawe (M:=[_,_,_]) mx [5,6,7,11,12,13,16,19] ?_
   refine Z4t ?_
   refine Z7l ?_
   refine e_q 2 rfl (wn_none rfl) (op_move (v:=.pointer _) rfl) ?_
   refine e_q 3 rfl (wn_none rfl) (op_nilck rfl) ?_
   refine e_q 4 rfl (wn_none rfl) (op_field fld_251_1 rfl) ?_
   refine e_q 8 rfl (wn_none rfl) (op_move (v:=.pointer _) rfl) ?_
   refine e_q 9 rfl (wn_none rfl) (op_nilck rfl) ?_
   refine e_q 10 rfl (wn_none rfl) (op_field fld_251_2 rfl) ?_
   refine et_4 (i1:=5) (i2:=6) (i3:=11) (i4:=12) (by kernel_rfl) ?_ ?_ ?_ ?_
   ·
    refine Z4o ?_
    refine et_3 (i1:=6) (i2:=11) (i3:=12) (by kernel_rfl) ?_ ?_ ?_
    ·
     refine Z1j ?_;intro ao1
     refine et_3 (i1:=7) (i2:=11) (i3:=12) (by kernel_rfl) ?_ ?_ ?_
     ·
      refine Z20 ?_;intro ao2 ac2
      refine et_2 (i1:=11) (i2:=12) (by kernel_rfl) ?_ ?_
      ·
       refine Z8l ?_
       refine Zj ?_
       refine Z22 ?_;intro ao3 ao4 ac4
       refine Za ?_
       refine px_cut (ao2,ac2,ao4,ac4) trivial ?_ (fun _ s=>(by (try dsimp only);simp only [←rep_snoc];exact (s.arr 8 [0,3,1,6,7,5])))
       exact Z1
      refine Zt ?_;intro ao5
      refine Z21 ?_
      refine Z7h ?_;intro ao6 ac6
      refine Za ?_
      refine px_cut (ao2,ac2,ao6,ac6) trivial ?_ (fun _ s=>(by (try dsimp only);simp only [←rep_snoc];exact (s.arr 8 [0,3,1,6,7,5])))
      exact Z1
     ·
      refine Zz ?_
      refine Z2w ?_ ?_
      ·
       refine Z20 ?_;intro ao7 ac7
       refine Zj ?_
       refine Z22 ?_;intro ao8 ao9 ac9
       refine Za ?_
       refine px_cut (ao7,ac7,ao9,ac9) trivial ?_ (fun _ s=>(by (try dsimp only);simp only [←rep_snoc];exact (s.arr 8 [0,3,1,6,7,5])))
       exact Z1
      refine Z14 ?_;intro ao10
      refine Z10 ?_;intro ao11 ac11 ao12 ac12
      refine Za ?_
      refine px_cut (ao11,ac11,ao12,ac12) trivial ?_ (fun _ s=>(by (try dsimp only);simp only [←rep_snoc];exact (s.arr 8 [0,2,1,6,7,5])))
      exact Z1
     refine Zt ?_;intro ao13
     refine Z2c ?_ ?_
     ·
      refine Z52 ?_;intro ao14 ac14
      refine Z21 ?_
      refine Z55 ?_;intro ao15 ac15
      refine Za ?_
      refine px_cut (ao14,ac14,ao15,ac15) trivial ?_ (fun _ s=>(by (try dsimp only);simp only [←rep_snoc];exact (s.arr 8 [0,2,1,6,7,5])))
      exact Z1
     refine Z2l ?_
     refine Z10 ?_;intro ao16 ac16 ao17 ac17
     refine Za ?_
     refine px_cut (ao16,ac16,ao17,ac17) trivial ?_ (fun _ s=>(by (try dsimp only);simp only [←rep_snoc];exact (s.arr 8 [0,2,1,6,7,5])))
     exact Z1
    ·
     refine Z4o ?_
     refine et_2 (i1:=6) (i2:=12) (by kernel_rfl) ?_ ?_
     ·
      refine Z1j ?_;intro ao18
      refine Z2w ?_ ?_
      ·
       refine Z20 ?_;intro ao19 ac19
       refine Zj ?_
       refine Z22 ?_;intro ao20 ao21 ac21
       refine Za ?_
       refine px_cut (ao19,ac19,ao21,ac21) trivial ?_ (fun _ s=>(by (try dsimp only);simp only [←rep_snoc];exact (s.arr 8 [0,3,1,6,7,5])))
       exact Z1
      refine Z14 ?_;intro ao22
      refine Z10 ?_;intro ao23 ac23 ao24 ac24
      refine Za ?_
      refine px_cut (ao23,ac23,ao24,ac24) trivial ?_ (fun _ s=>(by (try dsimp only);simp only [←rep_snoc];exact (s.arr 8 [0,2,1,6,7,5])))
      exact Z1
     refine Z1j ?_;intro ao25
     refine Zs ?_
     refine Z14 ?_;intro ao26
     refine Z11 ?_;intro ao27 ac27 ao28 ac28
     refine Za ?_
     refine px_cut (ao27,ac27,ao28,ac28) trivial ?_ (fun _ s=>(by (try dsimp only);simp only [←rep_snoc];exact (s.arr 8 [0,2,1,6,7,5])))
     exact Z1
    refine Z1j ?_;intro ao29
    refine et_2 (i1:=6) (i2:=11) (by kernel_rfl) ?_ ?_
    ·
     refine Zt ?_;intro ao30
     refine Z2c ?_ ?_
     ·
      refine Z53 ?_;intro ao31 ac31
      refine Z21 ?_
      refine Z56 ?_;intro ao32 ac32
      refine Za ?_
      refine px_cut (ao31,ac31,ao32,ac32) trivial ?_ (fun _ s=>(by (try dsimp only);simp only [←rep_snoc];exact (s.arr 8 [0,2,1,6,7,5])))
      exact Z1
     refine Z2l ?_
     refine Z11 ?_;intro ao33 ac33 ao34 ac34
     refine Za ?_
     refine px_cut (ao33,ac33,ao34,ac34) trivial ?_ (fun _ s=>(by (try dsimp only);simp only [←rep_snoc];exact (s.arr 8 [0,2,1,6,7,5])))
     exact Z1
    refine Zz ?_
    refine Zs ?_
    refine Z14 ?_;intro ao35
    refine Z11 ?_;intro ao36 ac36 ao37 ac37
    refine Za ?_
    refine px_cut (ao36,ac36,ao37,ac37) trivial ?_ (fun _ s=>(by (try dsimp only);simp only [←rep_snoc];exact (s.arr 8 [0,2,1,6,7,5])))
    exact Z1
   ·
    refine Z1j ?_;intro ao38
    refine et_3 (i1:=5) (i2:=11) (i3:=12) (by kernel_rfl) ?_ ?_ ?_
    ·
     refine Zz ?_
     refine et_3 (i1:=7) (i2:=11) (i3:=12) (by kernel_rfl) ?_ ?_ ?_
     ·
      refine Z20 ?_;intro ao39 ac39
      refine et_2 (i1:=11) (i2:=12) (by kernel_rfl) ?_ ?_
      ·
       refine Z8l ?_
       refine Zj ?_
       refine Z22 ?_;intro ao40 ao41 ac41
       refine Za ?_
       refine px_cut (ao39,ac39,ao41,ac41) trivial ?_ (fun _ s=>(by (try dsimp only);simp only [←rep_snoc];exact (s.arr 8 [0,3,1,6,7,5])))
       exact Z1
      refine Zt ?_;intro ao42
      refine Z21 ?_
      refine Z7h ?_;intro ao43 ac43
      refine Za ?_
      refine px_cut (ao39,ac39,ao43,ac43) trivial ?_ (fun _ s=>(by (try dsimp only);simp only [←rep_snoc];exact (s.arr 8 [0,3,1,6,7,5])))
      exact Z1
     ·
      refine Zz ?_
      refine Z2w ?_ ?_
      ·
       refine Z20 ?_;intro ao44 ac44
       refine Zj ?_
       refine Z22 ?_;intro ao45 ao46 ac46
       refine Za ?_
       refine px_cut (ao44,ac44,ao46,ac46) trivial ?_ (fun _ s=>(by (try dsimp only);simp only [←rep_snoc];exact (s.arr 8 [0,3,1,6,7,5])))
       exact Z1
      refine Z14 ?_;intro ao47
      refine Z10 ?_;intro ao48 ac48 ao49 ac49
      refine Za ?_
      refine px_cut (ao48,ac48,ao49,ac49) trivial ?_ (fun _ s=>(by (try dsimp only);simp only [←rep_snoc];exact (s.arr 8 [0,2,1,6,7,5])))
      exact Z1
     refine Zt ?_;intro ao50
     refine Z2c ?_ ?_
     ·
      refine Z52 ?_;intro ao51 ac51
      refine Z21 ?_
      refine Z55 ?_;intro ao52 ac52
      refine Za ?_
      refine px_cut (ao51,ac51,ao52,ac52) trivial ?_ (fun _ s=>(by (try dsimp only);simp only [←rep_snoc];exact (s.arr 8 [0,2,1,6,7,5])))
      exact Z1
     refine Z2l ?_
     refine Z10 ?_;intro ao53 ac53 ao54 ac54
     refine Za ?_
     refine px_cut (ao53,ac53,ao54,ac54) trivial ?_ (fun _ s=>(by (try dsimp only);simp only [←rep_snoc];exact (s.arr 8 [0,2,1,6,7,5])))
     exact Z1
    ·
     refine Zz ?_
     refine et_2 (i1:=5) (i2:=12) (by kernel_rfl) ?_ ?_
     ·
      refine Zz ?_
      refine Z2w ?_ ?_
      ·
       refine Z20 ?_;intro ao55 ac55
       refine Zj ?_
       refine Z22 ?_;intro ao56 ao57 ac57
       refine Za ?_
       refine px_cut (ao55,ac55,ao57,ac57) trivial ?_ (fun _ s=>(by (try dsimp only);simp only [←rep_snoc];exact (s.arr 8 [0,3,1,6,7,5])))
       exact Z1
      refine Z14 ?_;intro ao58
      refine Z10 ?_;intro ao59 ac59 ao60 ac60
      refine Za ?_
      refine px_cut (ao59,ac59,ao60,ac60) trivial ?_ (fun _ s=>(by (try dsimp only);simp only [←rep_snoc];exact (s.arr 8 [0,2,1,6,7,5])))
      exact Z1
     refine Zt ?_;intro ao61
     refine Z31 ?_
     refine Z10 ?_;intro ao62 ac62 ao63 ac63
     refine Za ?_
     refine px_cut (ao62,ac62,ao63,ac63) trivial ?_ (fun _ s=>(by (try dsimp only);simp only [←rep_snoc];exact (s.arr 8 [0,2,1,6,7,5])))
     exact Z1
    refine Zt ?_;intro ao64
    refine et_2 (i1:=5) (i2:=11) (by kernel_rfl) ?_ ?_
    ·
     refine Z43 ?_
     refine Z2c ?_ ?_
     ·
      refine Z52 ?_;intro ao65 ac65
      refine Z21 ?_
      refine Z55 ?_;intro ao66 ac66
      refine Za ?_
      refine px_cut (ao65,ac65,ao66,ac66) trivial ?_ (fun _ s=>(by (try dsimp only);simp only [←rep_snoc];exact (s.arr 8 [0,2,1,6,7,5])))
      exact Z1
     refine Z2l ?_
     refine Z10 ?_;intro ao67 ac67 ao68 ac68
     refine Za ?_
     refine px_cut (ao67,ac67,ao68,ac68) trivial ?_ (fun _ s=>(by (try dsimp only);simp only [←rep_snoc];exact (s.arr 8 [0,2,1,6,7,5])))
     exact Z1
    refine Z43 ?_
    refine Z31 ?_
    refine Z10 ?_;intro ao69 ac69 ao70 ac70
    refine Za ?_
    refine px_cut (ao69,ac69,ao70,ac70) trivial ?_ (fun _ s=>(by (try dsimp only);simp only [←rep_snoc];exact (s.arr 8 [0,2,1,6,7,5])))
    exact Z1
   ·
    refine Z4o ?_
    refine et_3 (i1:=5) (i2:=6) (i3:=12) (by kernel_rfl) ?_ ?_ ?_
    ·
     refine Z4o ?_
     refine et_2 (i1:=6) (i2:=12) (by kernel_rfl) ?_ ?_
     ·
      refine Z1j ?_;intro ao71
      refine Z2w ?_ ?_
      ·
       refine Z20 ?_;intro ao72 ac72
       refine Zj ?_
       refine Z22 ?_;intro ao73 ao74 ac74
       refine Za ?_
       refine px_cut (ao72,ac72,ao74,ac74) trivial ?_ (fun _ s=>(by (try dsimp only);simp only [←rep_snoc];exact (s.arr 8 [0,3,1,6,7,5])))
       exact Z1
      refine Z14 ?_;intro ao75
      refine Z10 ?_;intro ao76 ac76 ao77 ac77
      refine Za ?_
      refine px_cut (ao76,ac76,ao77,ac77) trivial ?_ (fun _ s=>(by (try dsimp only);simp only [←rep_snoc];exact (s.arr 8 [0,2,1,6,7,5])))
      exact Z1
     refine Z1j ?_;intro ao78
     refine Zs ?_
     refine Z14 ?_;intro ao79
     refine Z11 ?_;intro ao80 ac80 ao81 ac81
     refine Za ?_
     refine px_cut (ao80,ac80,ao81,ac81) trivial ?_ (fun _ s=>(by (try dsimp only);simp only [←rep_snoc];exact (s.arr 8 [0,2,1,6,7,5])))
     exact Z1
    ·
     refine Z1j ?_;intro ao82
     refine et_2 (i1:=5) (i2:=12) (by kernel_rfl) ?_ ?_
     ·
      refine Zz ?_
      refine Z2w ?_ ?_
      ·
       refine Z20 ?_;intro ao83 ac83
       refine Zj ?_
       refine Z22 ?_;intro ao84 ao85 ac85
       refine Za ?_
       refine px_cut (ao83,ac83,ao85,ac85) trivial ?_ (fun _ s=>(by (try dsimp only);simp only [←rep_snoc];exact (s.arr 8 [0,3,1,6,7,5])))
       exact Z1
      refine Z14 ?_;intro ao86
      refine Z10 ?_;intro ao87 ac87 ao88 ac88
      refine Za ?_
      refine px_cut (ao87,ac87,ao88,ac88) trivial ?_ (fun _ s=>(by (try dsimp only);simp only [←rep_snoc];exact (s.arr 8 [0,2,1,6,7,5])))
      exact Z1
     refine Zt ?_;intro ao89
     refine Z31 ?_
     refine Z10 ?_;intro ao90 ac90 ao91 ac91
     refine Za ?_
     refine px_cut (ao90,ac90,ao91,ac91) trivial ?_ (fun _ s=>(by (try dsimp only);simp only [←rep_snoc];exact (s.arr 8 [0,2,1,6,7,5])))
     exact Z1
    refine Z1j ?_;intro ao92
    refine Z60 ?_ ?_
    ·
     refine Zz ?_
     refine Zs ?_
     refine Z14 ?_;intro ao93
     refine Z11 ?_;intro ao94 ac94 ao95 ac95
     refine Za ?_
     refine px_cut (ao94,ac94,ao95,ac95) trivial ?_ (fun _ s=>(by (try dsimp only);simp only [←rep_snoc];exact (s.arr 8 [0,2,1,6,7,5])))
     exact Z1
    refine Zt ?_;intro ao96
    refine Z31 ?_
    refine Z11 ?_;intro ao97 ac97 ao98 ac98
    refine Za ?_
    refine px_cut (ao97,ac97,ao98,ac98) trivial ?_ (fun _ s=>(by (try dsimp only);simp only [←rep_snoc];exact (s.arr 8 [0,2,1,6,7,5])))
    exact Z1
   refine Z1j ?_;intro ao99
   refine et_3 (i1:=5) (i2:=6) (i3:=11) (by kernel_rfl) ?_ ?_ ?_
   ·
    refine Zz ?_
    refine et_2 (i1:=6) (i2:=11) (by kernel_rfl) ?_ ?_
    ·
     refine Zt ?_;intro ao100
     refine Z2c ?_ ?_
     ·
      refine Z53 ?_;intro ao101 ac101
      refine Z21 ?_
      refine Z56 ?_;intro ao102 ac102
      refine Za ?_
      refine px_cut (ao101,ac101,ao102,ac102) trivial ?_ (fun _ s=>(by (try dsimp only);simp only [←rep_snoc];exact (s.arr 8 [0,2,1,6,7,5])))
      exact Z1
     refine Z2l ?_
     refine Z11 ?_;intro ao103 ac103 ao104 ac104
     refine Za ?_
     refine px_cut (ao103,ac103,ao104,ac104) trivial ?_ (fun _ s=>(by (try dsimp only);simp only [←rep_snoc];exact (s.arr 8 [0,2,1,6,7,5])))
     exact Z1
    refine Zz ?_
    refine Zs ?_
    refine Z14 ?_;intro ao105
    refine Z11 ?_;intro ao106 ac106 ao107 ac107
    refine Za ?_
    refine px_cut (ao106,ac106,ao107,ac107) trivial ?_ (fun _ s=>(by (try dsimp only);simp only [←rep_snoc];exact (s.arr 8 [0,2,1,6,7,5])))
    exact Z1
   ·
    refine Zt ?_;intro ao108
    refine et_2 (i1:=5) (i2:=11) (by kernel_rfl) ?_ ?_
    ·
     refine Z43 ?_
     refine Z2c ?_ ?_
     ·
      refine Z53 ?_;intro ao109 ac109
      refine Z21 ?_
      refine Z56 ?_;intro ao110 ac110
      refine Za ?_
      refine px_cut (ao109,ac109,ao110,ac110) trivial ?_ (fun _ s=>(by (try dsimp only);simp only [←rep_snoc];exact (s.arr 8 [0,2,1,6,7,5])))
      exact Z1
     refine Z2l ?_
     refine Z11 ?_;intro ao111 ac111 ao112 ac112
     refine Za ?_
     refine px_cut (ao111,ac111,ao112,ac112) trivial ?_ (fun _ s=>(by (try dsimp only);simp only [←rep_snoc];exact (s.arr 8 [0,2,1,6,7,5])))
     exact Z1
    refine Z43 ?_
    refine Z31 ?_
    refine Z11 ?_;intro ao113 ac113 ao114 ac114
    refine Za ?_
    refine px_cut (ao113,ac113,ao114,ac114) trivial ?_ (fun _ s=>(by (try dsimp only);simp only [←rep_snoc];exact (s.arr 8 [0,2,1,6,7,5])))
    exact Z1
   refine Zz ?_
   refine Z60 ?_ ?_
   ·
    refine Zz ?_
    refine Zs ?_
    refine Z14 ?_;intro ao115
    refine Z11 ?_;intro ao116 ac116 ao117 ac117
    refine Za ?_
    refine px_cut (ao116,ac116,ao117,ac117) trivial ?_ (fun _ s=>(by (try dsimp only);simp only [←rep_snoc];exact (s.arr 8 [0,2,1,6,7,5])))
    exact Z1
   refine Zt ?_;intro ao118
   refine Z31 ?_
   refine Z11 ?_;intro ao119 ac119 ao120 ac120
   refine Za ?_
   refine px_cut (ao119,ac119,ao120,ac120) trivial ?_ (fun _ s=>(by (try dsimp only);simp only [←rep_snoc];exact (s.arr 8 [0,2,1,6,7,5])))
   exact Z1
  rintro ⟨e1,g1,e2,g2⟩ f;(try dsimp only)
  refine cd_pull4 ?_
  refine cd_pull4 ?_
  refine cd_pull2 ?_
  refine cd_drawe (M:=[_,_,_]) mx [5,6,7,11,12,13,16,19] ?_
  refine Z4t ?_
  refine Z7l ?_
  refine e_q 2 rfl (wn_none rfl) (op_move (v:=.pointer _) rfl) ?_
  refine e_q 3 rfl (wn_none rfl) (op_nilck rfl) ?_
  refine e_q 4 rfl (wn_none rfl) (op_field fld_251_3 rfl) ?_
  refine e_q 8 rfl (wn_none rfl) (op_move (v:=.pointer _) rfl) ?_
  refine e_q 9 rfl (wn_none rfl) (op_nilck rfl) ?_
  refine e_q 10 rfl (wn_none rfl) (op_field fld_251_4 rfl) ?_
  refine et_4 (i1:=5) (i2:=6) (i3:=11) (i4:=12) (by kernel_rfl) ?_ ?_ ?_ ?_
  ·
   refine Z4o ?_
   refine et_3 (i1:=6) (i2:=11) (i3:=12) (by kernel_rfl) ?_ ?_ ?_
   ·
    refine Z1j ?_;intro ao121
    refine et_3 (i1:=7) (i2:=11) (i3:=12) (by kernel_rfl) ?_ ?_ ?_
    ·
     refine Z20 ?_;intro ao122 ac122
     refine et_2 (i1:=11) (i2:=12) (by kernel_rfl) ?_ ?_
     ·
      refine Z8l ?_
      refine Zj ?_
      refine Z22 ?_;intro ao123 ao124 ac124
      refine Zb ?_
      refine px_loop2 (i+1,e1,g1,e2,g2,ao122,ac122,ao124,ac124) (by dsimp only;omega) (by (try dsimp only);omega) trivial ?_ (fun _ s=>(by (try dsimp only);simp only [←rep_snoc be,←rep_snoc lf];exact (s.arr 8 [0,5,6,3,1,7])))
      exact Z0
     refine Zt ?_;intro ao125
     refine Z21 ?_
     refine Z7h ?_;intro ao126 ac126
     refine Zb ?_
     refine px_loop2 (i+1,e1,g1,e2,g2,ao122,ac122,ao126,ac126) (by dsimp only;omega) (by (try dsimp only);omega) trivial ?_ (fun _ s=>(by (try dsimp only);simp only [←rep_snoc be,←rep_snoc lf];exact (s.arr 8 [0,5,6,3,1,7])))
     exact Z0
    ·
     refine Zz ?_
     refine Z2w ?_ ?_
     ·
      refine Z20 ?_;intro ao127 ac127
      refine Zj ?_
      refine Z22 ?_;intro ao128 ao129 ac129
      refine Zb ?_
      refine px_loop2 (i+1,e1,g1,e2,g2,ao127,ac127,ao129,ac129) (by dsimp only;omega) (by (try dsimp only);omega) trivial ?_ (fun _ s=>(by (try dsimp only);simp only [←rep_snoc be,←rep_snoc lf];exact (s.arr 8 [0,5,6,3,1,7])))
      exact Z0
     refine Z14 ?_;intro ao130
     refine Z10 ?_;intro ao131 ac131 ao132 ac132
     refine Zb ?_
     refine px_loop2 (i+1,e1,g1,e2,g2,ao131,ac131,ao132,ac132) (by dsimp only;omega) (by (try dsimp only);omega) trivial ?_ (fun _ s=>(by (try dsimp only);simp only [←rep_snoc be,←rep_snoc lf];exact (s.arr 8 [0,5,6,2,1,7])))
     exact Z0
    refine Zt ?_;intro ao133
    refine Z2c ?_ ?_
    ·
     refine Z52 ?_;intro ao134 ac134
     refine Z21 ?_
     refine Z55 ?_;intro ao135 ac135
     refine Zb ?_
     refine px_loop2 (i+1,e1,g1,e2,g2,ao134,ac134,ao135,ac135) (by dsimp only;omega) (by (try dsimp only);omega) trivial ?_ (fun _ s=>(by (try dsimp only);simp only [←rep_snoc be,←rep_snoc lf];exact (s.arr 8 [0,5,6,2,1,7])))
     exact Z0
    refine Z2l ?_
    refine Z10 ?_;intro ao136 ac136 ao137 ac137
    refine Zb ?_
    refine px_loop2 (i+1,e1,g1,e2,g2,ao136,ac136,ao137,ac137) (by dsimp only;omega) (by (try dsimp only);omega) trivial ?_ (fun _ s=>(by (try dsimp only);simp only [←rep_snoc be,←rep_snoc lf];exact (s.arr 8 [0,5,6,2,1,7])))
    exact Z0
   ·
    refine Z4o ?_
    refine et_2 (i1:=6) (i2:=12) (by kernel_rfl) ?_ ?_
    ·
     refine Z1j ?_;intro ao138
     refine Z2w ?_ ?_
     ·
      refine Z20 ?_;intro ao139 ac139
      refine Zj ?_
      refine Z22 ?_;intro ao140 ao141 ac141
      refine Zb ?_
      refine px_loop2 (i+1,e1,g1,e2,g2,ao139,ac139,ao141,ac141) (by dsimp only;omega) (by (try dsimp only);omega) trivial ?_ (fun _ s=>(by (try dsimp only);simp only [←rep_snoc be,←rep_snoc lf];exact (s.arr 8 [0,5,6,3,1,7])))
      exact Z0
     refine Z14 ?_;intro ao142
     refine Z10 ?_;intro ao143 ac143 ao144 ac144
     refine Zb ?_
     refine px_loop2 (i+1,e1,g1,e2,g2,ao143,ac143,ao144,ac144) (by dsimp only;omega) (by (try dsimp only);omega) trivial ?_ (fun _ s=>(by (try dsimp only);simp only [←rep_snoc be,←rep_snoc lf];exact (s.arr 8 [0,5,6,2,1,7])))
     exact Z0
    refine Z1j ?_;intro ao145
    refine Zs ?_
    refine Z14 ?_;intro ao146
    refine Z11 ?_;intro ao147 ac147 ao148 ac148
    refine Zb ?_
    refine px_loop2 (i+1,e1,g1,e2,g2,ao147,ac147,ao148,ac148) (by dsimp only;omega) (by (try dsimp only);omega) trivial ?_ (fun _ s=>(by (try dsimp only);simp only [←rep_snoc be,←rep_snoc lf];exact (s.arr 8 [0,5,6,2,1,7])))
    exact Z0
   refine Z1j ?_;intro ao149
   refine et_2 (i1:=6) (i2:=11) (by kernel_rfl) ?_ ?_
   ·
    refine Zt ?_;intro ao150
    refine Z2c ?_ ?_
    ·
     refine Z53 ?_;intro ao151 ac151
     refine Z21 ?_
     refine Z56 ?_;intro ao152 ac152
     refine Zb ?_
     refine px_loop2 (i+1,e1,g1,e2,g2,ao151,ac151,ao152,ac152) (by dsimp only;omega) (by (try dsimp only);omega) trivial ?_ (fun _ s=>(by (try dsimp only);simp only [←rep_snoc be,←rep_snoc lf];exact (s.arr 8 [0,5,6,2,1,7])))
     exact Z0
    refine Z2l ?_
    refine Z11 ?_;intro ao153 ac153 ao154 ac154
    refine Zb ?_
    refine px_loop2 (i+1,e1,g1,e2,g2,ao153,ac153,ao154,ac154) (by dsimp only;omega) (by (try dsimp only);omega) trivial ?_ (fun _ s=>(by (try dsimp only);simp only [←rep_snoc be,←rep_snoc lf];exact (s.arr 8 [0,5,6,2,1,7])))
    exact Z0
   refine Zz ?_
   refine Zs ?_
   refine Z14 ?_;intro ao155
   refine Z11 ?_;intro ao156 ac156 ao157 ac157
   refine Zb ?_
   refine px_loop2 (i+1,e1,g1,e2,g2,ao156,ac156,ao157,ac157) (by dsimp only;omega) (by (try dsimp only);omega) trivial ?_ (fun _ s=>(by (try dsimp only);simp only [←rep_snoc be,←rep_snoc lf];exact (s.arr 8 [0,5,6,2,1,7])))
   exact Z0
  ·
   refine Z1j ?_;intro ao158
   refine et_3 (i1:=5) (i2:=11) (i3:=12) (by kernel_rfl) ?_ ?_ ?_
   ·
    refine Zz ?_
    refine et_3 (i1:=7) (i2:=11) (i3:=12) (by kernel_rfl) ?_ ?_ ?_
    ·
     refine Z20 ?_;intro ao159 ac159
     refine et_2 (i1:=11) (i2:=12) (by kernel_rfl) ?_ ?_
     ·
      refine Z8l ?_
      refine Zj ?_
      refine Z22 ?_;intro ao160 ao161 ac161
      refine Zb ?_
      refine px_loop2 (i+1,e1,g1,e2,g2,ao159,ac159,ao161,ac161) (by dsimp only;omega) (by (try dsimp only);omega) trivial ?_ (fun _ s=>(by (try dsimp only);simp only [←rep_snoc be,←rep_snoc lf];exact (s.arr 8 [0,5,6,3,1,7])))
      exact Z0
     refine Zt ?_;intro ao162
     refine Z21 ?_
     refine Z7h ?_;intro ao163 ac163
     refine Zb ?_
     refine px_loop2 (i+1,e1,g1,e2,g2,ao159,ac159,ao163,ac163) (by dsimp only;omega) (by (try dsimp only);omega) trivial ?_ (fun _ s=>(by (try dsimp only);simp only [←rep_snoc be,←rep_snoc lf];exact (s.arr 8 [0,5,6,3,1,7])))
     exact Z0
    ·
     refine Zz ?_
     refine Z2w ?_ ?_
     ·
      refine Z20 ?_;intro ao164 ac164
      refine Zj ?_
      refine Z22 ?_;intro ao165 ao166 ac166
      refine Zb ?_
      refine px_loop2 (i+1,e1,g1,e2,g2,ao164,ac164,ao166,ac166) (by dsimp only;omega) (by (try dsimp only);omega) trivial ?_ (fun _ s=>(by (try dsimp only);simp only [←rep_snoc be,←rep_snoc lf];exact (s.arr 8 [0,5,6,3,1,7])))
      exact Z0
     refine Z14 ?_;intro ao167
     refine Z10 ?_;intro ao168 ac168 ao169 ac169
     refine Zb ?_
     refine px_loop2 (i+1,e1,g1,e2,g2,ao168,ac168,ao169,ac169) (by dsimp only;omega) (by (try dsimp only);omega) trivial ?_ (fun _ s=>(by (try dsimp only);simp only [←rep_snoc be,←rep_snoc lf];exact (s.arr 8 [0,5,6,2,1,7])))
     exact Z0
    refine Zt ?_;intro ao170
    refine Z2c ?_ ?_
    ·
     refine Z52 ?_;intro ao171 ac171
     refine Z21 ?_
     refine Z55 ?_;intro ao172 ac172
     refine Zb ?_
     refine px_loop2 (i+1,e1,g1,e2,g2,ao171,ac171,ao172,ac172) (by dsimp only;omega) (by (try dsimp only);omega) trivial ?_ (fun _ s=>(by (try dsimp only);simp only [←rep_snoc be,←rep_snoc lf];exact (s.arr 8 [0,5,6,2,1,7])))
     exact Z0
    refine Z2l ?_
    refine Z10 ?_;intro ao173 ac173 ao174 ac174
    refine Zb ?_
    refine px_loop2 (i+1,e1,g1,e2,g2,ao173,ac173,ao174,ac174) (by dsimp only;omega) (by (try dsimp only);omega) trivial ?_ (fun _ s=>(by (try dsimp only);simp only [←rep_snoc be,←rep_snoc lf];exact (s.arr 8 [0,5,6,2,1,7])))
    exact Z0
   ·
    refine Zz ?_
    refine et_2 (i1:=5) (i2:=12) (by kernel_rfl) ?_ ?_
    ·
     refine Zz ?_
     refine Z2w ?_ ?_
     ·
      refine Z20 ?_;intro ao175 ac175
      refine Zj ?_
      refine Z22 ?_;intro ao176 ao177 ac177
      refine Zb ?_
      refine px_loop2 (i+1,e1,g1,e2,g2,ao175,ac175,ao177,ac177) (by dsimp only;omega) (by (try dsimp only);omega) trivial ?_ (fun _ s=>(by (try dsimp only);simp only [←rep_snoc be,←rep_snoc lf];exact (s.arr 8 [0,5,6,3,1,7])))
      exact Z0
     refine Z14 ?_;intro ao178
     refine Z10 ?_;intro ao179 ac179 ao180 ac180
     refine Zb ?_
     refine px_loop2 (i+1,e1,g1,e2,g2,ao179,ac179,ao180,ac180) (by dsimp only;omega) (by (try dsimp only);omega) trivial ?_ (fun _ s=>(by (try dsimp only);simp only [←rep_snoc be,←rep_snoc lf];exact (s.arr 8 [0,5,6,2,1,7])))
     exact Z0
    refine Zt ?_;intro ao181
    refine Z31 ?_
    refine Z10 ?_;intro ao182 ac182 ao183 ac183
    refine Zb ?_
    refine px_loop2 (i+1,e1,g1,e2,g2,ao182,ac182,ao183,ac183) (by dsimp only;omega) (by (try dsimp only);omega) trivial ?_ (fun _ s=>(by (try dsimp only);simp only [←rep_snoc be,←rep_snoc lf];exact (s.arr 8 [0,5,6,2,1,7])))
    exact Z0
   refine Zt ?_;intro ao184
   refine et_2 (i1:=5) (i2:=11) (by kernel_rfl) ?_ ?_
   ·
    refine Z43 ?_
    refine Z2c ?_ ?_
    ·
     refine Z52 ?_;intro ao185 ac185
     refine Z21 ?_
     refine Z55 ?_;intro ao186 ac186
     refine Zb ?_
     refine px_loop2 (i+1,e1,g1,e2,g2,ao185,ac185,ao186,ac186) (by dsimp only;omega) (by (try dsimp only);omega) trivial ?_ (fun _ s=>(by (try dsimp only);simp only [←rep_snoc be,←rep_snoc lf];exact (s.arr 8 [0,5,6,2,1,7])))
     exact Z0
    refine Z2l ?_
    refine Z10 ?_;intro ao187 ac187 ao188 ac188
    refine Zb ?_
    refine px_loop2 (i+1,e1,g1,e2,g2,ao187,ac187,ao188,ac188) (by dsimp only;omega) (by (try dsimp only);omega) trivial ?_ (fun _ s=>(by (try dsimp only);simp only [←rep_snoc be,←rep_snoc lf];exact (s.arr 8 [0,5,6,2,1,7])))
    exact Z0
   refine Z43 ?_
   refine Z31 ?_
   refine Z10 ?_;intro ao189 ac189 ao190 ac190
   refine Zb ?_
   refine px_loop2 (i+1,e1,g1,e2,g2,ao189,ac189,ao190,ac190) (by dsimp only;omega) (by (try dsimp only);omega) trivial ?_ (fun _ s=>(by (try dsimp only);simp only [←rep_snoc be,←rep_snoc lf];exact (s.arr 8 [0,5,6,2,1,7])))
   exact Z0
  ·
   refine Z4o ?_
   refine et_3 (i1:=5) (i2:=6) (i3:=12) (by kernel_rfl) ?_ ?_ ?_
   ·
    refine Z4o ?_
    refine et_2 (i1:=6) (i2:=12) (by kernel_rfl) ?_ ?_
    ·
     refine Z1j ?_;intro ao191
     refine Z2w ?_ ?_
     ·
      refine Z20 ?_;intro ao192 ac192
      refine Zj ?_
      refine Z22 ?_;intro ao193 ao194 ac194
      refine Zb ?_
      refine px_loop2 (i+1,e1,g1,e2,g2,ao192,ac192,ao194,ac194) (by dsimp only;omega) (by (try dsimp only);omega) trivial ?_ (fun _ s=>(by (try dsimp only);simp only [←rep_snoc be,←rep_snoc lf];exact (s.arr 8 [0,5,6,3,1,7])))
      exact Z0
     refine Z14 ?_;intro ao195
     refine Z10 ?_;intro ao196 ac196 ao197 ac197
     refine Zb ?_
     refine px_loop2 (i+1,e1,g1,e2,g2,ao196,ac196,ao197,ac197) (by dsimp only;omega) (by (try dsimp only);omega) trivial ?_ (fun _ s=>(by (try dsimp only);simp only [←rep_snoc be,←rep_snoc lf];exact (s.arr 8 [0,5,6,2,1,7])))
     exact Z0
    refine Z1j ?_;intro ao198
    refine Zs ?_
    refine Z14 ?_;intro ao199
    refine Z11 ?_;intro ao200 ac200 ao201 ac201
    refine Zb ?_
    refine px_loop2 (i+1,e1,g1,e2,g2,ao200,ac200,ao201,ac201) (by dsimp only;omega) (by (try dsimp only);omega) trivial ?_ (fun _ s=>(by (try dsimp only);simp only [←rep_snoc be,←rep_snoc lf];exact (s.arr 8 [0,5,6,2,1,7])))
    exact Z0
   ·
    refine Z1j ?_;intro ao202
    refine et_2 (i1:=5) (i2:=12) (by kernel_rfl) ?_ ?_
    ·
     refine Zz ?_
     refine Z2w ?_ ?_
     ·
      refine Z20 ?_;intro ao203 ac203
      refine Zj ?_
      refine Z22 ?_;intro ao204 ao205 ac205
      refine Zb ?_
      refine px_loop2 (i+1,e1,g1,e2,g2,ao203,ac203,ao205,ac205) (by dsimp only;omega) (by (try dsimp only);omega) trivial ?_ (fun _ s=>(by (try dsimp only);simp only [←rep_snoc be,←rep_snoc lf];exact (s.arr 8 [0,5,6,3,1,7])))
      exact Z0
     refine Z14 ?_;intro ao206
     refine Z10 ?_;intro ao207 ac207 ao208 ac208
     refine Zb ?_
     refine px_loop2 (i+1,e1,g1,e2,g2,ao207,ac207,ao208,ac208) (by dsimp only;omega) (by (try dsimp only);omega) trivial ?_ (fun _ s=>(by (try dsimp only);simp only [←rep_snoc be,←rep_snoc lf];exact (s.arr 8 [0,5,6,2,1,7])))
     exact Z0
    refine Zt ?_;intro ao209
    refine Z31 ?_
    refine Z10 ?_;intro ao210 ac210 ao211 ac211
    refine Zb ?_
    refine px_loop2 (i+1,e1,g1,e2,g2,ao210,ac210,ao211,ac211) (by dsimp only;omega) (by (try dsimp only);omega) trivial ?_ (fun _ s=>(by (try dsimp only);simp only [←rep_snoc be,←rep_snoc lf];exact (s.arr 8 [0,5,6,2,1,7])))
    exact Z0
   refine Z1j ?_;intro ao212
   refine Z60 ?_ ?_
   ·
    refine Zz ?_
    refine Zs ?_
    refine Z14 ?_;intro ao213
    refine Z11 ?_;intro ao214 ac214 ao215 ac215
    refine Zb ?_
    refine px_loop2 (i+1,e1,g1,e2,g2,ao214,ac214,ao215,ac215) (by dsimp only;omega) (by (try dsimp only);omega) trivial ?_ (fun _ s=>(by (try dsimp only);simp only [←rep_snoc be,←rep_snoc lf];exact (s.arr 8 [0,5,6,2,1,7])))
    exact Z0
   refine Zt ?_;intro ao216
   refine Z31 ?_
   refine Z11 ?_;intro ao217 ac217 ao218 ac218
   refine Zb ?_
   refine px_loop2 (i+1,e1,g1,e2,g2,ao217,ac217,ao218,ac218) (by dsimp only;omega) (by (try dsimp only);omega) trivial ?_ (fun _ s=>(by (try dsimp only);simp only [←rep_snoc be,←rep_snoc lf];exact (s.arr 8 [0,5,6,2,1,7])))
   exact Z0
  refine Z1j ?_;intro ao219
  refine et_3 (i1:=5) (i2:=6) (i3:=11) (by kernel_rfl) ?_ ?_ ?_
  ·
   refine Zz ?_
   refine et_2 (i1:=6) (i2:=11) (by kernel_rfl) ?_ ?_
   ·
    refine Zt ?_;intro ao220
    refine Z2c ?_ ?_
    ·
     refine Z53 ?_;intro ao221 ac221
     refine Z21 ?_
     refine Z56 ?_;intro ao222 ac222
     refine Zb ?_
     refine px_loop2 (i+1,e1,g1,e2,g2,ao221,ac221,ao222,ac222) (by dsimp only;omega) (by (try dsimp only);omega) trivial ?_ (fun _ s=>(by (try dsimp only);simp only [←rep_snoc be,←rep_snoc lf];exact (s.arr 8 [0,5,6,2,1,7])))
     exact Z0
    refine Z2l ?_
    refine Z11 ?_;intro ao223 ac223 ao224 ac224
    refine Zb ?_
    refine px_loop2 (i+1,e1,g1,e2,g2,ao223,ac223,ao224,ac224) (by dsimp only;omega) (by (try dsimp only);omega) trivial ?_ (fun _ s=>(by (try dsimp only);simp only [←rep_snoc be,←rep_snoc lf];exact (s.arr 8 [0,5,6,2,1,7])))
    exact Z0
   refine Zz ?_
   refine Zs ?_
   refine Z14 ?_;intro ao225
   refine Z11 ?_;intro ao226 ac226 ao227 ac227
   refine Zb ?_
   refine px_loop2 (i+1,e1,g1,e2,g2,ao226,ac226,ao227,ac227) (by dsimp only;omega) (by (try dsimp only);omega) trivial ?_ (fun _ s=>(by (try dsimp only);simp only [←rep_snoc be,←rep_snoc lf];exact (s.arr 8 [0,5,6,2,1,7])))
   exact Z0
  ·
   refine Zt ?_;intro ao228
   refine et_2 (i1:=5) (i2:=11) (by kernel_rfl) ?_ ?_
   ·
    refine Z43 ?_
    refine Z2c ?_ ?_
    ·
     refine Z53 ?_;intro ao229 ac229
     refine Z21 ?_
     refine Z56 ?_;intro ao230 ac230
     refine Zb ?_
     refine px_loop2 (i+1,e1,g1,e2,g2,ao229,ac229,ao230,ac230) (by dsimp only;omega) (by (try dsimp only);omega) trivial ?_ (fun _ s=>(by (try dsimp only);simp only [←rep_snoc be,←rep_snoc lf];exact (s.arr 8 [0,5,6,2,1,7])))
     exact Z0
    refine Z2l ?_
    refine Z11 ?_;intro ao231 ac231 ao232 ac232
    refine Zb ?_
    refine px_loop2 (i+1,e1,g1,e2,g2,ao231,ac231,ao232,ac232) (by dsimp only;omega) (by (try dsimp only);omega) trivial ?_ (fun _ s=>(by (try dsimp only);simp only [←rep_snoc be,←rep_snoc lf];exact (s.arr 8 [0,5,6,2,1,7])))
    exact Z0
   refine Z43 ?_
   refine Z31 ?_
   refine Z11 ?_;intro ao233 ac233 ao234 ac234
   refine Zb ?_
   refine px_loop2 (i+1,e1,g1,e2,g2,ao233,ac233,ao234,ac234) (by dsimp only;omega) (by (try dsimp only);omega) trivial ?_ (fun _ s=>(by (try dsimp only);simp only [←rep_snoc be,←rep_snoc lf];exact (s.arr 8 [0,5,6,2,1,7])))
   exact Z0
  refine Zz ?_
  refine Z60 ?_ ?_
  ·
   refine Zz ?_
   refine Zs ?_
   refine Z14 ?_;intro ao235
   refine Z11 ?_;intro ao236 ac236 ao237 ac237
   refine Zb ?_
   refine px_loop2 (i+1,e1,g1,e2,g2,ao236,ac236,ao237,ac237) (by dsimp only;omega) (by (try dsimp only);omega) trivial ?_ (fun _ s=>(by (try dsimp only);simp only [←rep_snoc be,←rep_snoc lf];exact (s.arr 8 [0,5,6,2,1,7])))
   exact Z0
  refine Zt ?_;intro ao238
  refine Z31 ?_
  refine Z11 ?_;intro ao239 ac239 ao240 ac240
  refine Zb ?_
  refine px_loop2 (i+1,e1,g1,e2,g2,ao239,ac239,ao240,ac240) (by dsimp only;omega) (by (try dsimp only);omega) trivial ?_ (fun _ s=>(by (try dsimp only);simp only [←rep_snoc be,←rep_snoc lf];exact (s.arr 8 [0,5,6,2,1,7])))
  exact Z0
 intro hb1 hp1
 refine R4 ?_
 have ei:i=(t.nodes.length-o.length):=by rw [List.length_append,List.length_replicate] at hp1;omega
 subst ei
 exact px_end0 (l':=TreeObj pt t::WRaw pw pt (growO t.nodes.length o) (sm++List.replicate (t.nodes.length-o.length) 0) (be++List.replicate (t.nodes.length-o.length) (-1)) (lf++List.replicate (t.nodes.length-o.length) (-1))::l) rfl (fun _ s=>((Sat.wrawMk rfl rfl rfl rfl (s.arr 6 [1,2,3,4,5,0])).pull 1)) ⟨rfl,rfl⟩
theorem rank_calls {w0 w:World} {l:List HProp} (pw pt:Nat) (t:TreeS) (o sm be lf:List Int) (hs:Sat w0 w ((TreeObj pt t)::(WRaw pw pt o sm be lf)::l)) (h2:sm.length=t.nodes.length) (h3:be.length=t.nodes.length) (h4:lf.length=t.nodes.length) :
  Calls Tryz.prog 144 #[.pointer (some ⟨pw,0,none⟩)] w (Ret w0 fun v l'=>v=.tuple #[]∧l'=TreeObj pt t::WRaw pw pt o sm (bestL t.nodes sm) (leafL t.nodes sm)::l):=by
 have hw:=hs.treeWF
 have hm1:=hw.m1;have hm2:=hw.m2;have hle:=hw.le;have hne:=hw.ne;have hpa:=hw.pa;have hnd:=hw.nd
 obtain ⟨a1,c1,a2,c2,a3,c3,a4,c4,hs⟩:=(hs.pull 1).wrawOpen
 refine calls_enter Tryz.func144 rfl rfl rfl hs ?_
 refine R6 ?_
 refine Z33 ?_
 refine cd_pull4 ?_
 refine cd_pull4 ?_
 refine cd_loop2 (α:=Nat) [(2,2),(13,29)] (fun x=>[(13,.int .i64 (x:Int))]) (fun x=>Row 3 encI64 (.slice a3 be.length c3) (tab t.nodes.length (fun j=>if j<x then (-1:Int) else oA be j))::Row 3 encI64 (.slice a4 lf.length c4) (tab t.nodes.length (fun j=>if j<x then (j:Int) else oA lf j))::_) (fun x=>x≤t.nodes.length) (fun x=>t.nodes.length-x) 0 (Nat.zero_le _) ⟨rfl,trivial⟩ (fun _ s=>by (try dsimp only);rw [tab_start h3,tab_start h4];exact s) ?_
 rintro i1 hi f;(try dsimp only at hi ⊢)
 refine Z3 ?_ ?_
 ·intro hb1 hp1
  have hi1:i1<t.nodes.length:=by omega
  refine R9 ?_
  refine cd_pull1 ?_
  refine cd_draw (M:=[_,_]) mx [11,12,13,14] (by kernel_rfl) ?_
  refine R11 ?_
  refine Zbh ?_
  refine Zbi ?_
  refine Zbh ?_
  refine Zbi ?_
  refine rg_nil2 ?_
  refine R6 ?_
  have eB:(tab t.nodes.length (fun j=>if j<i1 then (-1:Int) else oA be j)).set i1 (-1)=tab t.nodes.length (fun j=>if j<(i1+1) then (-1:Int) else oA be j):=tab_upd fun j hj=>by (repeat' split)<;>first | rfl | omega
  have eL:(tab t.nodes.length (fun j=>if j<i1 then (j:Int) else oA lf j)).set i1 (i1:Int)=tab t.nodes.length (fun j=>if j<(i1+1) then (j:Int) else oA lf j):=tab_upd fun j hj=>by (repeat' split)<;>first | rfl | omega
  refine px_loop2 (i1+1) (by omega) (by (try dsimp only);omega) ⟨congrArg (Value.int .i64) (by simp),trivial⟩ ?_ (fun _ s=>(by (try dsimp only);rw [←eB,←eL];exact (s.arr 6 [1,0,2,3,4,5])))
  exact Z0
 intro hb1 hp1
 have hi1:i1=t.nodes.length:=by omega
 refine R11 ?_
 refine Z2v ?_
 refine R5 ?_
 refine cd_loop2 (α:=Int) [(3,5),(36,67)] (fun x=>[(3,.int .i64 x)]) (fun x=>Row 3 encI64 (.slice a3 be.length c3) (tab t.nodes.length (fun p=>bestD t.nodes (oA sm) t.nodes.length ((t.nodes.length:Int)-1-x).toNat p))::_) (fun x=>0≤x∧x<t.nodes.length) (fun x=>x.toNat) ((be.length:Int)-1) (by omega) ⟨rfl,trivial⟩ (fun _ s=>by (try dsimp only);rw [←show tab t.nodes.length (fun j=>if j<i1 then (-1:Int) else oA be j)=tab t.nodes.length (fun p=>bestD t.nodes (oA sm) t.nodes.length ((t.nodes.length:Int)-1-((be.length:Int)-1)).toNat p) from tab_congr fun j hj=>by rw [show ((t.nodes.length:Int)-1-((be.length:Int)-1)).toNat=0 by omega,bestD_zero,if_pos (by omega)]];exact s) ?_
 rintro i ⟨hi0,hi⟩ f;(try dsimp only at hi0 hi ⊢)
 refine Z1u ?_ ?_
 ·intro hb2 hp2
  obtain ⟨i0,rfl⟩:∃ i0:Nat,i=i0:=⟨i.toNat,by omega⟩
  obtain ⟨j0,hpj,hj0⟩:∃ j:Nat,prA t.nodes i0=j∧j<i0:=by
   rcases hpa.rg (show i0<t.nodes.length by omega) with ⟨h,_⟩ | h
   ·exact absurd h (by omega)
   exact h
  have hbr:=bestD_rg hnd (oA sm) (m:=((t.nodes.length:Int)-1-(i0:Int)).toNat) (n:=t.nodes.length) (by omega) (Nat.le_refl _) j0
  refine R10 ?_
  refine ol_pull5 ?_
  refine oi (os_call cb_75 rfl (fun w s=>Node_calls _ _ _  s )) ?_;rintro _ _ ⟨rfl,rfl⟩;rw [TreeS.node_at]
  refine R3 ?_
  refine Z3u ?_;intro bx1
  refine Z36 ?_
  refine R3 ?_
  refine cd_pull6 ?_
  refine cd_pull5 ?_
  refine cd_pull3 ?_
  refine R1 ?_
  refine cd_drawt (M:=[_,_,_]) mx [5] 10 (by kernel_rfl) rfl rfl ?_
  dsimp only [List.take_succ_cons,List.take_zero,List.drop_succ_cons,List.drop_zero]
  refine R5 ?_
  refine rg_i (wn_none rfl) (os_q (op_ld 1 sc_39 rfl rfl rfl)) rfl rfl ?_;rintro _ _ ⟨rfl,rfl⟩;refine ⟨[_,_,_],rfl,?_⟩
  refine R1 ?_
  refine rg_q (wn_none rfl) (op_ld 0 sc_3 rfl rfl (show (nodeC _).toArray[33]? = some (.int .i64 (prA t.nodes i0)) from nodeC_a33 _)) rfl rfl ?_
  refine rg_q (wn_none rfl) (op_index j0 sB_39 rfl rfl hpj (rds_row 1 rfl rfl) (by first | rfl | (rw [tab_len];omega) | (rw [hbl];omega)) (by rw [tab_len];omega)) rfl rfl ?_
  refine rg_q (wn_none rfl) (op_ldw sc_3 (rds_row 1 rfl rfl) rfl (by rw [tab_len];omega) rfl) rfl rfl ?_
  refine rg_tail3 ?_
  refine Z7 ?_
  refine Z7 ?_
  refine Z7 ?_
  refine oi (os_call cb_178 rfl (fun w s=>ahead_calls _ _ _ _ _ _ _ _ _ _ _ _  s rfl (by omega) (by rw [tab_get];rcases hbr with h | ⟨k,h,_,h3⟩<;>omega))) ?_;rintro _ _ ⟨rfl,rfl⟩;rw [tab_get]
  refine Z8 ?_ ?_
  ·intro hb3 hp3
   have eB:(tab t.nodes.length (fun p=>bestD t.nodes (oA sm) t.nodes.length ((t.nodes.length:Int)-1-(i0:Int)).toNat p)).set j0 (i0:Int)=tab t.nodes.length (fun p=>bestD t.nodes (oA sm) t.nodes.length ((t.nodes.length:Int)-1-((i0:Int)-1)).toNat p):=tab_upd fun p hp=>by
    rw [show ((t.nodes.length:Int)-1-((i0:Int)-1)).toNat=((t.nodes.length:Int)-1-(i0:Int)).toNat+1 by omega,bestD_succ,show t.nodes.length-((t.nodes.length:Int)-1-(i0:Int)).toNat-1=i0 by omega,hpj]
    by_cases e:p=j0
    ·subst e;rw [if_pos rfl,if_pos ⟨rfl,hb3⟩]
    rw [if_neg e,if_neg (fun h=>e (by have:=h.1;omega))]
   refine cd_drawt (M:=[]) mx [7] 8 (by kernel_rfl) rfl rfl ?_
   dsimp only [List.take_succ_cons,List.take_zero,List.drop_succ_cons,List.drop_zero]
   refine R5 ?_
   refine rg_q (wn_none rfl) (op_ld 3 sc_3 rfl rfl (show (nodeC _).toArray[33]? = some (.int .i64 (prA t.nodes i0)) from nodeC_a33 _)) rfl rfl ?_
   refine R1 ?_
   refine rg_i (wn_none rfl) (os_q (op_index j0 sB_39 rfl rfl hpj (rds_row 4 rfl rfl) (by first | rfl | (rw [tab_len];omega) | (rw [hbl];omega)) (by rw [tab_len];omega))) rfl rfl ?_;rintro _ _ ⟨rfl,rfl⟩;refine ⟨[],rfl,?_⟩
   refine rg_tail0 ?_
   refine ol_pull4 ?_
   refine oN (os_stsw  sc_3 rfl rfl rfl (by rw [tab_len];omega) rfl rfl) ?_;rintro _ _ ⟨rfl,rfl⟩
   refine R8 ?_
   refine px_loop2 ((i0:Int)-1) (by omega) (by (try dsimp only);omega) ⟨rfl,trivial⟩ ?_ (fun _ s=>(by (try dsimp only);rw [←eB];exact (s.arr 7 [0,5,2,6,3,1])))
   exact Z0
  intro hb3 hp3
  have eB:tab t.nodes.length (fun p=>bestD t.nodes (oA sm) t.nodes.length ((t.nodes.length:Int)-1-(i0:Int)).toNat p)=tab t.nodes.length (fun p=>bestD t.nodes (oA sm) t.nodes.length ((t.nodes.length:Int)-1-((i0:Int)-1)).toNat p):=tab_congr fun p hp=>by
   rw [show ((t.nodes.length:Int)-1-((i0:Int)-1)).toNat=((t.nodes.length:Int)-1-(i0:Int)).toNat+1 by omega,bestD_succ,show t.nodes.length-((t.nodes.length:Int)-1-(i0:Int)).toNat-1=i0 by omega,hpj]
   by_cases e:p=j0
   ·subst e;rw [if_neg (fun h=>by rw [h.2] at hb3;cases hb3)]
   rw [if_neg (fun h=>e (by have:=h.1;omega))]
  refine R8 ?_
  refine px_loop2 ((i0:Int)-1) (by omega) (by (try dsimp only);omega) ⟨rfl,trivial⟩ ?_ (fun _ s=>(by (try dsimp only);rw [←eB];exact (s.arr 7 [4,5,1,6,2,0])))
  exact Z0
 intro hb2 hp2
 have hi0:i=0:=by omega
 have eB:tab t.nodes.length (fun p=>bestD t.nodes (oA sm) t.nodes.length ((t.nodes.length:Int)-1-i).toNat p)=bestL t.nodes sm:=by
  unfold bestL
  rw [h2]
  exact tab_congr fun p hp=>by rw [show ((t.nodes.length:Int)-1-i).toNat=t.nodes.length-1 by omega];exact bestD_all hnd hpa _ (Nat.le_refl _) p
 rw [eB]
 have hbl:(bestL t.nodes sm).length=t.nodes.length:=by unfold bestL;simp [h2]
 refine R10 ?_
 refine Z2v ?_
 refine R5 ?_
 refine cd_pull1 ?_
 refine cd_loop2 (α:=Int) [(6,7),(74,99)] (fun x=>[(6,.int .i64 x)]) (fun x=>Row 3 encI64 (.slice a4 lf.length c4) (tab t.nodes.length (fun j=>if (j:Int)≤x then (j:Int) else ((leafN t.nodes (oA sm) t.nodes.length j:Nat):Int)))::_) (fun x=>-1≤x∧x<t.nodes.length) (fun x=>(x+1).toNat) ((be.length:Int)-1) (by omega) ⟨rfl,trivial⟩ (fun _ s=>by (try dsimp only);rw [←show tab t.nodes.length (fun j=>if j<i1 then (j:Int) else oA lf j)=tab t.nodes.length (fun j=>if (j:Int)≤((be.length:Int)-1) then (j:Int) else ((leafN t.nodes (oA sm) t.nodes.length j:Nat):Int)) from tab_congr fun j hj=>by rw [if_pos (by omega),if_pos (by omega)]];exact s) ?_
 rintro i3 ⟨hi30,hi3⟩ f;(try dsimp only at hi30 hi3 ⊢)
 refine Z1u ?_ ?_
 ·intro hb4 hp4
  obtain ⟨i0,rfl⟩:∃ i0:Nat,i3=i0:=⟨i3.toNat,by omega⟩
  have hbv:(bestL t.nodes sm)[i0]'(by rw [hbl];omega)=bestN t.nodes (oA sm) sm.length i0:=by simp only [bestL,List.getElem_map,List.getElem_range]
  refine R10 ?_
  refine oq (op_index i0 sB_39 rfl rfl rfl (rds_row 1 rfl rfl) (by first | rfl | (rw [tab_len];omega) | (rw [hbl];omega)) (by rw [hbl];omega)) ?_
  refine oq (op_ldw sc_3 (rds_row 1 rfl rfl) rfl (by rw [hbl];omega) rfl) ?_
  refine R8 ?_
  refine Z4 ?_ ?_
  ·intro hb5 hp5
   obtain ⟨k0,hk0,hk1,hk2⟩:∃ k0:Nat,(bestL t.nodes sm)[i0]'(by rw [hbl];omega)=(k0:Int)∧i0<k0∧k0<t.nodes.length:=by
    rcases bestN_rg hnd hpa (oA sm) (Nat.le_of_eq h2) i0 with h | ⟨k,h,h5,h6,_⟩
    ·omega
    exact ⟨k,by omega,h5,by omega⟩
   have eL:(tab t.nodes.length (fun j=>if (j:Int)≤(i0:Int) then (j:Int) else ((leafN t.nodes (oA sm) t.nodes.length j:Nat):Int))).set i0 ((tab t.nodes.length (fun j=>if (j:Int)≤(i0:Int) then (j:Int) else ((leafN t.nodes (oA sm) t.nodes.length j:Nat):Int)))[k0]'(by rw [tab_len];omega))=tab t.nodes.length (fun j=>if (j:Int)≤((i0:Int)-1) then (j:Int) else ((leafN t.nodes (oA sm) t.nodes.length j:Nat):Int)):=tab_upd fun j hj=>by
    rw [tab_get]
    by_cases e:j=i0
    ·subst e
     rw [if_pos rfl,if_neg (by omega),if_neg (by omega),←h2,leafN_yes hnd hpa (Nat.le_of_eq h2) (hbv.symm.trans hk0)]
    rw [if_neg e]
    by_cases q1:(j:Int)≤(i0:Int)
    ·rw [if_pos q1,if_pos (by omega)]
    rw [if_neg q1,if_neg (by omega)]
   refine cd_drawt (M:=[]) mx [10,11,12] 13 (by kernel_rfl) rfl rfl ?_
   dsimp only [List.take_succ_cons,List.take_zero,List.drop_succ_cons,List.drop_zero]
   refine R10 ?_
   refine rg_i (wn_none rfl) (os_q (op_index k0 sB_39 rfl rfl hk0 (rds_row 0 rfl rfl) (by first | rfl | (rw [tab_len];omega) | (rw [hbl];omega)) (by rw [tab_len];omega))) rfl rfl ?_;rintro _ _ ⟨rfl,rfl⟩;refine ⟨[],rfl,?_⟩
   refine rg_i (wn_none rfl) (os_q (op_ldw sc_3 (rds_row 0 rfl rfl) rfl (by rw [tab_len];omega) rfl)) rfl rfl ?_;rintro _ _ ⟨rfl,rfl⟩;refine ⟨[],rfl,?_⟩
   refine rg_i (wn_none rfl) (os_q (op_index i0 sB_39 rfl rfl rfl (rds_row 0 rfl rfl) (by first | rfl | (rw [tab_len];omega) | (rw [hbl];omega)) (by rw [tab_len];omega))) rfl rfl ?_;rintro _ _ ⟨rfl,rfl⟩;refine ⟨[],rfl,?_⟩
   refine rg_tail0 ?_
   refine oN (os_stsw  sc_3 rfl rfl rfl (by rw [tab_len];omega) rfl rfl) ?_;rintro _ _ ⟨rfl,rfl⟩
   refine R8 ?_
   exact Zcd
  intro hb5 hp5
  have eL:tab t.nodes.length (fun j=>if (j:Int)≤(i0:Int) then (j:Int) else ((leafN t.nodes (oA sm) t.nodes.length j:Nat):Int))=tab t.nodes.length (fun j=>if (j:Int)≤((i0:Int)-1) then (j:Int) else ((leafN t.nodes (oA sm) t.nodes.length j:Nat):Int)):=tab_congr fun j hj=>by
   by_cases e:j=i0
   ·subst e
    rw [if_pos (by omega),if_neg (by omega),←h2,leafN_no _ (by omega)]
   by_cases q1:(j:Int)≤(i0:Int)
   ·rw [if_pos q1,if_pos (by omega)]
   rw [if_neg q1,if_neg (by omega)]
  refine R8 ?_
  exact Zcd
 intro hb4 hp4
 refine R4 ?_
 have ei:i3=-1:=by omega
 have eL:tab t.nodes.length (fun j=>if (j:Int)≤i3 then (j:Int) else ((leafN t.nodes (oA sm) t.nodes.length j:Nat):Int))=leafL t.nodes sm:=by
  unfold leafL
  rw [h2]
  exact tab_congr fun j hj=>by rw [if_neg (by omega)]
 rw [eL]
 exact px_end0 (l':=TreeObj pt t::WRaw pw pt o sm (bestL t.nodes sm) (leafL t.nodes sm)::l) rfl (fun _ s=>((Sat.wrawMk rfl rfl (by rw [hbl];omega) (by unfold leafL;simp;omega) (s.arr 6 [2,3,4,1,0,5])).pull 1)) ⟨rfl,rfl⟩
theorem next_calls {w0 w:World} {l:List HProp} (pw pt:Nat) (t:TreeS) (o sm be lf:List Int) (lo:Option Addr) (lc:Nat) (xs:List Delta) (hs:Sat w0 w ((TreeObj pt t)::(WRaw pw pt o sm be lf)::l)) (h1:o.length=t.nodes.length) (hen:Ent o) (hr:Rds w0 l encDelta lo xs) (hxl:xs.length≤1000) :
  Calls Tryz.prog 162 #[.pointer (some ⟨pw,0,none⟩),.slice lo xs.length lc] w (Ret w0 fun v l'=>∃ out ao c,v=.tuple #[.slice ao (List.length out) c,.int .i64 (nextO t.nodes o xs)]∧l'=Row 3 encI64 (.slice ao (List.length out) c) out::TreeObj pt t::WRaw pw pt o sm be lf::l∧(nextO t.nodes o xs=0→out=(runO t.nodes o xs).2)):=by
 have hw:=hs.treeWF
 have hm1:=hw.m1;have hm2:=hw.m2;have hle:=hw.le;have hne:=hw.ne;have hpa:=hw.pa;have hnd:=hw.nd
 obtain ⟨a1,c1,a2,c2,a3,c3,a4,c4,hs⟩:=(hs.pull 1).wrawOpen
 refine calls_enter Tryz.func162 rfl rfl rfl hs ?_
 refine R6 ?_
 refine oi (os_bslice (E:=encI64) [] (ys:=([]:List Int)) sB_39 zv_3 rfl rfl rfl rfl (by decide)) ?_;rintro _ _ ⟨ao1,rfl,rfl⟩
 refine R4 ?_
 refine oi (os_append (E:=encI64) rfl sB_39 zv_3 rfl rfl rfl (fun w s=>(rds_row 2 rfl rfl) [] w s) rfl (by simp;omega) (by unfold maxLen;simp;omega)) ?_;rintro _ _ ⟨ao2,ac2,rfl,rfl⟩
 refine R6 ?_
 refine oq (op_len_slice Tryz.underlying277 rfl) ?_
 refine R4 ?_
 refine cd_loop2 (α:=Nat×List Int) [(4,5),(8,9),(21,64)] (fun x=>[(21,.int .i64 (x.1:Int))]) (fun x=>Row 3 encI64 (.slice ao2 ([]++o).length ac2) x.2::_) (fun x=>x.1≤xs.length∧runO t.nodes o (xs.take x.1)=(0,x.2)) (fun x=>xs.length-x.1) (0,[]++o) ⟨Nat.zero_le _,by rw [List.take_zero];rfl⟩ ⟨rfl,trivial⟩ (fun _ s=>s) ?_
 rintro ⟨i,cur⟩ ⟨hi,hrun⟩ f;(try dsimp only at hi hrun ⊢)
 have hcl:=runO_len t.nodes (xs.take i) o
 have hent:=runO_ent (ns:=t.nodes) (xs.take i) hen
 rw [hrun] at hcl hent
 dsimp only at hcl hent
 have hcl0:([]++o).length=cur.length:=by rw [List.nil_append];exact hcl.symm
 refine Z3 ?_ ?_
 ·intro hb1 hp1
  have hi1:i<xs.length:=by omega
  refine R5 ?_
  refine oq (op_index i sB_277 rfl rfl rfl (((((((hr.cons _).cons _).cons _).cons _).cons _).cons _).cons _) rfl (by omega)) ?_
  refine oq (op_ldaw (L:=deltaC _) ag_243 (((((((hr.cons _).cons _).cons _).cons _).cons _).cons _).cons _) rfl (by omega) rfl (deltaC_ta _)) ?_
  refine oi (os_alloc (cs:=(deltaC Delta.zero).toArray) zB_243 (by kernel_rfl)) ?_;rintro _ _ ⟨bx1,rfl,rfl⟩
  refine oN (os_storew (deltaC _) ag_243 rfl rfl (deltaC_len _) (deltaC_one _) (by simp [deltaC_len]) (Free.zero _)) ?_;rintro _ _ ⟨rfl,rfl⟩
  refine R2 ?_
  refine cd_pull7 ?_
  refine R1 ?_
  refine cd_draw (M:=[_]) mx [6] (by kernel_rfl) ?_
  refine R6 ?_
  refine rg_i (wn_none rfl) (os_call cb_16 rfl (fun w s=>Place_calls _ _ _  s )) rfl rfl ?_;rintro _ _ ⟨rfl,rfl⟩;refine ⟨[_],rfl,?_⟩
  refine Z2y ?_
  refine R8 ?_
  refine Z4 ?_ ?_
  ·intro hb2 hp2
   have hno:idxOf t.nodes xs[i].root=none:=TreeS.place_none (by omega)
   refine R13 ?_
   have hnx:nextO t.nodes o xs=7:=runO_fail hi1 hrun (stepO_none hno) (by decide)
   exact px_ret2 rfl (v1:=.slice none 0 0) (v2:=.int _ 7) (l':=Row 3 encI64 (.slice none ([]:List Int).length 0) []::TreeObj pt t::WRaw pw pt o sm be lf::l) rfl rfl (fun _ s=>Sat.rowNil ((Sat.wrawMk rfl rfl rfl rfl (s.arr 8 [3,4,5,6,7,0])).pull 1)) ⟨[],none,0,by rw [hnx];rfl,rfl,fun h=>by rw [hnx] at h;cases h⟩
  intro hb2 hp2
  obtain ⟨j0,hij,hpj⟩:=TreeS.place_some (t:=t) (r:=xs[i].root) (by omega)
  have hjl:=idxOf_lt hij
  have hej:=hent j0
  rw [oA_get (show j0<cur.length by omega)] at hej
  refine R5 ?_
  refine ols 39 rfl ?_ ?_
  ·intro hb3 hp3
   have hdd:xs[i].n≤-4611686018427387904∨4611686018427387904≤xs[i].n:=by omega
   refine Z1b ?_
   refine Z4u ?_
   refine Z25 ?_
   refine R3 ?_
   refine Z35 ?_
   refine R13 ?_
   have hnx:nextO t.nodes o xs=1:=runO_fail hi1 hrun (stepO_arg hij hdd) (by decide)
   exact Zbj
  intro hb3 hp3
  refine ol_q (wn_some rfl rfl rfl hb3 rfl) (op_field fld_243_1 rfl) rfl ?_
  refine ol_q (wn_some rfl rfl rfl hb3 rfl) (op_ld 1 sc_3 rfl rfl (deltaC_a32 _)) rfl ?_
  refine ol_q (wn_some rfl rfl rfl hb3 rfl) (op_ge rfl rfl) rfl ?_
  refine Z1v ?_
  refine Z6 ?_ ?_
  ·intro hb4 hp4
   have hdd:xs[i].n≤-4611686018427387904∨4611686018427387904≤xs[i].n:=by omega
   refine R13 ?_
   have hnx:nextO t.nodes o xs=1:=runO_fail hi1 hrun (stepO_arg hij hdd) (by decide)
   exact Zbj
  intro hb4 hp4
  have hd:¬ (xs[i].n≤-4611686018427387904∨4611686018427387904≤xs[i].n):=by omega
  have hcj:oA cur j0=cur[j0]:=oA_get (by omega)
  refine R4 ?_
  refine cd_drawt (M:=[]) mx [2,3,7] 8 (by kernel_rfl) rfl rfl ?_
  dsimp only [List.take_succ_cons,List.take_zero,List.drop_succ_cons,List.drop_zero]
  refine R2 ?_
  refine Zbk ?_
  refine rg_i (wn_none rfl) (os_q (op_ldw sc_3 (rds_row 2 rfl rfl) rfl (by omega) rfl)) rfl rfl ?_;rintro _ _ ⟨rfl,rfl⟩;refine ⟨[],rfl,?_⟩
  refine R3 ?_
  refine Zbk ?_
  refine rg_tail0 ?_
  refine Z7 ?_
  refine oN (os_stsw  sc_3 rfl rfl rfl (by omega) rfl rfl) ?_;rintro _ _ ⟨rfl,rfl⟩
  refine R5 ?_
  refine oq (op_index j0 sB_39 rfl rfl hpj (rds_row 0 rfl rfl) (by simp;omega) (by rw [List.length_set];omega)) ?_
  refine oq (op_ldw sc_3 (rds_row 0 rfl rfl) rfl (by rw [List.length_set];omega) rfl) ?_
  refine R2 ?_
  refine ols 57 rfl ?_ ?_
  ·intro hb5 hp5
   have hpS:=hp5
   refine Z1p ?_
   refine Z1p ?_
   refine Z1p ?_
   refine Z1p ?_
   refine Z1p ?_
   refine Z6p ?_
   refine Zh ?_
   refine R11 ?_
   have hnx:nextO t.nodes o xs=1:=runO_fail hi1 hrun (stepO_out hij hd (by rw [hcj];have q9:=hpS;simp only [set_get] at q9;omega)) (by decide)
   exact Zbl
  intro hb5 hp5
  have hpF:=hp5
  refine ol_q (wn_some rfl rfl rfl hb5 rfl) (op_move (v:=.slice _ _ _) rfl) rfl ?_
  refine ol_q (wn_some rfl rfl rfl hb5 rfl) (op_move (v:=.int _ _) rfl) rfl ?_
  refine ol_q (wn_some rfl rfl rfl hb5 rfl) (op_index j0 sB_39 rfl rfl hpj (rds_row 0 rfl rfl) (by simp;omega) (by rw [List.length_set];omega)) rfl ?_
  refine ol_q (wn_some rfl rfl rfl hb5 rfl) (op_ldw sc_3 (rds_row 0 rfl rfl) rfl (by rw [List.length_set];omega) rfl) rfl ?_
  refine ol_q (wn_some rfl rfl rfl hb5 rfl) (op_ge rfl rfl) rfl ?_
  refine oq (op_pick_f (v:=.bool _) rfl hb5 rfl) ?_
  refine Z8 ?_ ?_
  ·intro hb6 hp6
   have hpS:=hp6
   refine R11 ?_
   have hnx:nextO t.nodes o xs=1:=runO_fail hi1 hrun (stepO_out hij hd (by rw [hcj];have q9:=hpS;simp only [set_get] at q9;omega)) (by decide)
   exact Zbl
  intro hb6 hp6
  have hst:stepO t.nodes cur xs[i]=(0,cur.set j0 (cur[j0]+xs[i].n)):=by
   rw [stepO_in hij hd (by rw [hcj];have q9:=hp6;have q8:=hpF;simp only [set_get] at q9 q8;omega),hcj]
  refine R7 ?_
  refine px_loop2 (i+1,cur.set j0 (cur[j0]+xs[i].n)) ⟨by dsimp only;omega,runO_go hi1 hrun hst⟩ (by dsimp only;omega) ⟨congrArg (Value.int .i64) (by simp),trivial⟩ ?_ (fun _ s=>(s.arr 8 [0,3,4,5,6,7,1]))
  exact Z0
 intro hb1 hp1
 have hi1:i=xs.length:=by omega
 refine R12 ?_
 refine Z33 ?_
 refine cd_loop2 (α:=Nat) [(4,5),(10,10),(12,12),(67,76)] (fun x=>[(10,.int .i64 (4611686018427387903-sg (oA cur) x)),(67,.int .i64 (x:Int))]) (fun _=>_) (fun x=>x≤cur.length∧sg (oA cur) x≤4611686018427387903) (fun x=>cur.length-x) 0 ⟨Nat.zero_le _,by show (0:Int)≤_;decide⟩ ⟨rfl,rfl,trivial⟩ (fun _ s=>s) ?_
 rintro j ⟨hj,hj0⟩ f;(try dsimp only at hj hj0 ⊢)
 refine Z3 ?_ ?_
 ·intro hb7 hp7
  have hj1:j<cur.length:=by omega
  have hcv:=oA_get hj1
  have hej:=hent j
  have hs0:=sg_nonneg (f:=oA cur) (m:=j) (fun q _=>(hent q).1)
  have hsg:=sg_succ (f:=oA cur) (m:=j)
  refine R5 ?_
  refine oq (op_index j sB_39 rfl rfl rfl (rds_row 0 rfl rfl) (by simp;omega) (by omega)) ?_
  refine Z8a ?_
  refine R15 ?_
  refine Z4 ?_ ?_
  ·intro hb8 hp8
   refine R11 ?_
   have hnx:nextO t.nodes o xs=1:=nextO_much (cur:=cur) (by have:=hrun;rwa [show i=xs.length by omega,List.take_length] at this) (by have:=sg_mono (f:=oA cur) (m:=j+1) (n:=cur.length) (by omega) (fun q _=>(hent q).1);unfold tot;omega)
   exact px_ret2 rfl (v1:=.slice none 0 0) (v2:=.int _ 1) (l':=Row 3 encI64 (.slice none ([]:List Int).length 0) []::TreeObj pt t::WRaw pw pt o sm be lf::l) rfl rfl (fun _ s=>Sat.rowNil ((Sat.wrawMk rfl rfl rfl rfl (s.del 0)).pull 1)) ⟨[],none,0,by rw [hnx];rfl,rfl,fun h=>by rw [hnx] at h;cases h⟩
  intro hb8 hp8
  refine R7 ?_
  refine px_loop2 (j+1) ⟨by omega,by omega⟩ (by (try dsimp only);omega) ⟨congrArg (Value.int .i64) (by omega),congrArg (Value.int .i64) (by simp),trivial⟩ ?_ (fun _ s=>s)
  exact Z0
 intro hb7 hp7
 refine R12 ?_
 have hfin:runO t.nodes o xs=(0,cur):=by have:=hrun;rwa [show i=xs.length by omega,List.take_length] at this
 have htt:tot cur<4611686018427387904:=by unfold tot;rw [show j=cur.length by omega] at hj0;omega
 have hnx:nextO t.nodes o xs=0:=nextO_ok hfin htt
 exact px_ret2 rfl (v1:=.slice _ _ _) (v2:=.int _ 0) (l':=Row 3 encI64 (.slice ao2 ([]++o).length ac2) cur::TreeObj pt t::WRaw pw pt o sm be lf::l) rfl rfl (fun _ s=>by
  have s2:Sat _ _ (WRaw pw pt o sm be lf::TreeObj pt t::_::l):=Sat.wrawMk rfl rfl rfl rfl (s.arr 7 [1,2,3,4,5,6,0])
  have s3:=s2.pull 1
  exact s3.pull 2) ⟨cur,_,_,by rw [hnx,hcl0],by rw [hcl0],fun _=>by rw [hfin]⟩
/-- weights that are of their own ones -/
@[reducible] def WObj (pw pt:Nat) (ns:List Node) (o:List Int):HProp:=WRaw pw pt o (sumL ns o) (bestL ns (sumL ns o)) (leafL ns (sumL ns o))
theorem Apply_calls {w0 w:World} {l:List HProp} (pw pt:Nat) (t:TreeS) (o:List Int) (lo:Option Addr) (lc:Nat) (xs:List Delta) (hs:Sat w0 w ((TreeObj pt t)::(WObj pw pt t.nodes o)::l)) (h1:o.length≤t.nodes.length) (hok:OwnOK o) (hr:Rds w0 l encDelta lo xs) (hxl:xs.length≤1000) :
  Calls Tryz.prog 125 #[.pointer (some ⟨pw,0,none⟩),.slice lo xs.length lc] w (Ret w0 fun v l'=>v=.int .i64 (applyO t.nodes o xs).1∧l'=TreeObj pt t::WObj pw pt t.nodes (applyO t.nodes o xs).2::l):=by
 have hw:=hs.treeWF
 have hm1:=hw.m1;have hm2:=hw.m2;have hle:=hw.le;have hne:=hw.ne;have hpa:=hw.pa;have hnd:=hw.nd
 have hgl:=growO_len h1
 have hsl:=sumL_len t.nodes o
 have hbl:=bestL_len t.nodes (sumL t.nodes o)
 have hll:=leafL_len t.nodes (sumL t.nodes o)
 have hgo:OwnOK (growO t.nodes.length o):=hok.zeros _
 have hsg:=sumL_len t.nodes (growO t.nodes.length o)
 refine calls_enter Tryz.func125 rfl rfl rfl hs ?_
 refine R7 ?_
 refine oq (op_eqnil Tryz.underlying100 rfl rfl) ?_
 refine Zi ?_
 refine R4 ?_
 refine Z2 ?_
 refine Z2 ?_
 refine oi (os_call cb_143 rfl (fun w s=>grow_calls _ _ _ _ _ _ _  s (by omega) (by omega) (by omega) (by omega))) ?_;rintro _ _ ⟨rfl,rfl⟩;rw [sumL_grow]
 refine R5 ?_
 refine Z2 ?_
 refine Z2 ?_
 refine oi (os_call cb_162 rfl (fun w s=>next_calls _ _ _ _ _ _ _ _ _ _  s (by omega) hgo.ent hr (by omega))) ?_;rintro _ _ ⟨out2,oa2,oc2,rfl,rfl,ho2⟩
 refine R13 ?_
 refine Z4 ?_ ?_
 ·intro hb1 hp1
  refine R2 ?_
  refine Z7 ?_
  refine Z7 ?_
  refine oi (os_call cb_144 rfl (fun w s=>rank_calls _ _ _ _ _ _ _  s (by omega) (by rw [List.length_append,List.length_replicate];omega) (by rw [List.length_append,List.length_replicate];omega))) ?_;rintro _ _ ⟨rfl,rfl⟩
  refine R9 ?_
  have hne0:nextO t.nodes (growO t.nodes.length o) xs≠0:=of_decide_eq_true hb1
  rw [applyO_err hne0]
  exact px_ret1 rfl (v:=.int _ _) rfl (fun _ s=>(s.del 2)) ⟨rfl,rfl⟩
 intro hb1 hp1
 have hn0:nextO t.nodes (growO t.nodes.length o) xs=0:=by simpa using hb1
 have hz0:=nextO_zero hn0
 have hout:=ho2 hn0
 have hul:(runO t.nodes (growO t.nodes.length o) xs).2.length=(growO t.nodes.length o).length:=runO_len _ _ _
 have hun:∀ j,0≤oA (runO t.nodes (growO t.nodes.length o) xs).2 j:=fun j=>(runO_ent (ns:=t.nodes) xs hgo.ent j).1
 rw [hout]
 refine R3 ?_
 refine cd_pull2 ?_
 refine cd_wrawOpen ?_;intro a1 c1 a2 c2 a3 c3 a4 c4
 refine R2 ?_
 refine Z2v ?_
 refine R5 ?_
 refine cd_pull2 ?_
 refine cd_loop2 (α:=Int) [(7,11),(30,71)] (fun x=>[(7,.int .i64 x)]) (fun x=>Row 3 encI64 (.slice a2 (sumL t.nodes (growO t.nodes.length o)).length c2) (sumL t.nodes (mixO (growO t.nodes.length o) (runO t.nodes (growO t.nodes.length o) xs).2 ((t.nodes.length:Int)-1-x).toNat))::_) (fun x=>-1≤x∧x<t.nodes.length) (fun x=>(x+1).toNat) (((runO t.nodes (growO t.nodes.length o) xs).2.length:Int)-1) (by omega) ⟨rfl,trivial⟩ (fun _ s=>by (try dsimp only);rw [show ((t.nodes.length:Int)-1-(((runO t.nodes (growO t.nodes.length o) xs).2.length:Int)-1)).toNat=0 by omega,mixO_zero hul];exact s) ?_
 rintro i ⟨hi0,hi⟩ f;(try dsimp only at hi0 hi ⊢)
 refine Z1u ?_ ?_
 ·intro hb2 hp2
  obtain ⟨i0,rfl⟩:∃ i0:Nat,i=i0:=⟨i.toNat,by omega⟩
  have hm0:(growO t.nodes.length o).length-((t.nodes.length:Int)-1-(i0:Int)).toNat-1=i0:=by omega
  have hmm:((t.nodes.length:Int)-1-((i0:Int)-1)).toNat=((t.nodes.length:Int)-1-(i0:Int)).toNat+1:=by omega
  have hml:((t.nodes.length:Int)-1-(i0:Int)).toNat<(growO t.nodes.length o).length:=by omega
  have hvu:(runO t.nodes (growO t.nodes.length o) xs).2[i0]'(by omega)=oA (runO t.nodes (growO t.nodes.length o) xs).2 i0:=(oA_get _).symm
  have hvg:(growO t.nodes.length o)[i0]'(by omega)=oA (growO t.nodes.length o) i0:=(oA_get _).symm
  have hr1:=hgo.ent i0
  have hr2:=runO_ent (ns:=t.nodes) xs hgo.ent i0
  refine R5 ?_
  refine Zo ?_
  refine R2 ?_
  refine rg_q (wn_none rfl) (op_index i0 sB_39 rfl rfl rfl (rds_row 5 rfl rfl) rfl (by omega)) rfl rfl ?_
  refine rg_q (wn_none rfl) (op_ldw sc_3 (rds_row 5 rfl rfl) rfl (by omega) rfl) rfl rfl ?_
  refine R5 ?_
  refine rg_q (wn_none rfl) (op_index i0 sB_39 rfl rfl rfl (rds_row 2 rfl rfl) rfl (by omega)) rfl rfl ?_
  refine rg_q (wn_none rfl) (op_ldw sc_3 (rds_row 2 rfl rfl) rfl (by omega) rfl) rfl rfl ?_
  refine R2 ?_
  refine Zu ?_
  refine Z1u ?_ ?_
  ·intro hb3 hp3
   have hd0:oA (runO t.nodes (growO t.nodes.length o) xs).2 i0-oA (growO t.nodes.length o) i0=0:=by omega
   have eS:sumL t.nodes (mixO (growO t.nodes.length o) (runO t.nodes (growO t.nodes.length o) xs).2 ((t.nodes.length:Int)-1-(i0:Int)).toNat)=sumL t.nodes (mixO (growO t.nodes.length o) (runO t.nodes (growO t.nodes.length o) xs).2 ((t.nodes.length:Int)-1-((i0:Int)-1)).toNat):=by rw [hmm];exact (mix_same hul hml (by rw [hm0];exact hd0)).symm
   refine R9 ?_
   exact Zce
  intro hb3 hp3
  rw [hvu,hvg]
  refine R8 ?_
  refine cd_loop2 (α:=Int) [(9,11),(49,71)] (fun x=>[(9,.int .i64 x)]) (fun x=>Row 3 encI64 (.slice a2 (sumL t.nodes (growO t.nodes.length o)).length c2) (upL t.nodes (sumN t.nodes (mixO (growO t.nodes.length o) (runO t.nodes (growO t.nodes.length o) xs).2 ((t.nodes.length:Int)-1-(i0:Int)).toNat)) (growO t.nodes.length o).length i0 x (oA (runO t.nodes (growO t.nodes.length o) xs).2 i0-oA (growO t.nodes.length o) i0))::_) (fun x=>x=-1∨∃ k:Nat,x=k∧k<t.nodes.length∧belI t.nodes k (i0:Int)=true) (fun x=>(x+1).toNat) (i0:Int) (.inr ⟨i0,rfl,by omega,belI_eq⟩) ⟨rfl,trivial⟩ (fun _ s=>by (try dsimp only);rw [up_first hul];exact s) ?_
  rintro k hkk f;(try dsimp only at hkk ⊢)
  refine Z1u ?_ ?_
  ·intro hb4 hp4
   obtain ⟨k0,rfl,hk1,hk2⟩:∃ k0:Nat,k=k0∧k0<t.nodes.length∧belI t.nodes k0 (i0:Int)=true:=by
    rcases hkk with h | h
    ·omega
    exact h
   have hv0:(upL t.nodes (sumN t.nodes (mixO (growO t.nodes.length o) (runO t.nodes (growO t.nodes.length o) xs).2 ((t.nodes.length:Int)-1-(i0:Int)).toNat)) (growO t.nodes.length o).length i0 (k0:Int) (oA (runO t.nodes (growO t.nodes.length o) xs).2 i0-oA (growO t.nodes.length o) i0))[k0]'(by rw [upL_len];omega)=sumN t.nodes (mixO (growO t.nodes.length o) (runO t.nodes (growO t.nodes.length o) xs).2 ((t.nodes.length:Int)-1-(i0:Int)).toNat) k0:=by rw [←oA_get];exact upL_at (by omega)
   have hms:=mix_sum (ns:=t.nodes) hul hml k0
   rw [hm0,if_pos hk2] at hms
   have hb1:=sumN_nonneg (ns:=t.nodes) (a:=k0) (mixO_nn hul hgo.nn hun (((t.nodes.length:Int)-1-(i0:Int)).toNat+1))
   have hb2:=sumN_tot (ns:=t.nodes) (a:=k0) (mixO_nn hul hgo.nn hun (((t.nodes.length:Int)-1-(i0:Int)).toNat+1))
   have hb3:=mixO_tot hul hgo.nn hun (((t.nodes.length:Int)-1-(i0:Int)).toNat+1)
   have hb4:=hgo.tt
   have hb5:=hz0.2
   have eU:(upL t.nodes (sumN t.nodes (mixO (growO t.nodes.length o) (runO t.nodes (growO t.nodes.length o) xs).2 ((t.nodes.length:Int)-1-(i0:Int)).toNat)) (growO t.nodes.length o).length i0 (k0:Int) (oA (runO t.nodes (growO t.nodes.length o) xs).2 i0-oA (growO t.nodes.length o) i0)).set k0 (sumN t.nodes (mixO (growO t.nodes.length o) (runO t.nodes (growO t.nodes.length o) xs).2 ((t.nodes.length:Int)-1-(i0:Int)).toNat) k0+(oA (runO t.nodes (growO t.nodes.length o) xs).2 i0-oA (growO t.nodes.length o) i0))=upL t.nodes (sumN t.nodes (mixO (growO t.nodes.length o) (runO t.nodes (growO t.nodes.length o) xs).2 ((t.nodes.length:Int)-1-(i0:Int)).toNat)) (growO t.nodes.length o).length i0 (prA t.nodes k0) (oA (runO t.nodes (growO t.nodes.length o) xs).2 i0-oA (growO t.nodes.length o) i0):=upL_step hpa (by omega) (by omega) hk2
   refine R9 ?_
   refine oq (op_index k0 sB_39 rfl rfl rfl (rds_row 0 rfl rfl) (by rw [upL_len];omega) (by rw [upL_len];omega)) ?_
   refine oq (op_ldw sc_3 (rds_row 0 rfl rfl) rfl (by rw [upL_len];omega) rfl) ?_
   refine R1 ?_
   refine oq (op_add rfl rfl (by rw [hv0];omega) (by rw [hv0];omega)) ?_
   refine oq (op_index k0 sB_39 rfl rfl rfl (rds_row 0 rfl rfl) (by rw [upL_len];omega) (by rw [upL_len];omega)) ?_
   refine oN (os_stsw  sc_3 rfl rfl rfl (by rw [upL_len];omega) rfl rfl) ?_;rintro _ _ ⟨rfl,rfl⟩
   refine R8 ?_
   refine ol_pull6 ?_
   refine oi (os_call cb_75 rfl (fun w s=>Node_calls _ _ _  s )) ?_;rintro _ _ ⟨rfl,rfl⟩;rw [TreeS.node_at]
   refine R3 ?_
   refine Z3u ?_;intro bx1
   refine Z36 ?_
   refine R5 ?_
   refine oq (op_ld 0 sc_3 rfl rfl (show (nodeC _).toArray[33]? = some (.int .i64 (prA t.nodes k0)) from nodeC_a33 _)) ?_
   refine R3 ?_
   refine px_loop2 (prA t.nodes k0) (by rcases belI_step hpa (by omega) (by omega) hk2 with h | ⟨j,h,h3,h4⟩;exact .inl h;exact .inr ⟨j,h,by omega,h4⟩) (by (try dsimp only);rcases hpa.rg (show k0<t.nodes.length by omega) with h | ⟨j,h,h3⟩<;>omega) ⟨rfl,trivial⟩ ?_ (fun _ s=>(by (try dsimp only);rw [←eU,←hv0];exact (s.arr 8 [2,3,4,5,6,7,1])))
   exact Z0
  intro hb4 hp4
  have eS:upL t.nodes (sumN t.nodes (mixO (growO t.nodes.length o) (runO t.nodes (growO t.nodes.length o) xs).2 ((t.nodes.length:Int)-1-(i0:Int)).toNat)) (growO t.nodes.length o).length i0 k (oA (runO t.nodes (growO t.nodes.length o) xs).2 i0-oA (growO t.nodes.length o) i0)=sumL t.nodes (mixO (growO t.nodes.length o) (runO t.nodes (growO t.nodes.length o) xs).2 ((t.nodes.length:Int)-1-((i0:Int)-1)).toNat):=by rw [hmm];exact mix_up hul hml (by omega) hm0.symm
  refine R11 ?_
  exact Zce
 intro hb2 hp2
 refine R10 ?_
 refine Z2 ?_
 refine oN (os_store (v:=.slice _ _ _) sc_39 rfl rfl rfl rfl (Free.zero _) rfl) ?_;rintro _ _ ⟨rfl,rfl⟩
 refine R2 ?_
 have hei:i=-1:=by omega
 have hu:(mixO (growO t.nodes.length o) (runO t.nodes (growO t.nodes.length o) xs).2 ((t.nodes.length:Int)-1-i).toNat)=(runO t.nodes (growO t.nodes.length o) xs).2:=by rw [show ((t.nodes.length:Int)-1-i).toNat=(growO t.nodes.length o).length by omega];exact mixO_all hul
 rw [hu]
 refine cd_imp (fun _ s=>(Sat.wrawMk (o:=(runO t.nodes (growO t.nodes.length o) xs).2) (sm:=sumL t.nodes (runO t.nodes (growO t.nodes.length o) xs).2) (by rfl) (by simp only [sumL_len,hul]) (by rfl) (by rfl) (s.arr 7 [0,5,1,3,4,6]))) ?_
 refine Z32 ?_
 refine oi (os_call cb_144 rfl (fun w s=>rank_calls _ _ _ _ _ _ _  s (by rw [sumL_len,hul];omega) (by rw [List.length_append,List.length_replicate];omega) (by rw [List.length_append,List.length_replicate];omega))) ?_;rintro _ _ ⟨rfl,rfl⟩
 refine R7 ?_
 rw [applyO_run hn0]
 exact px_ret1 rfl (v:=.int _ 0) rfl (fun _ s=>s) ⟨rfl,rfl⟩
theorem Weight1_calls {w0 w:World} {l:List HProp} (pw pt b:Nat) (y1 y3 y4:Value) (a:Option Addr) (c n:Nat) (T:List Int) (i:Nat) (hs:Sat w0 w ((Blk b (.cells #[.pointer (some ⟨pw,0,none⟩)] 100 (0,0)))::(Blk pw (.cells #[.pointer (some ⟨pt,0,none⟩),y1,.slice a n c,y3,y4] 251 (0,0)))::(Row 3 encI64 (.slice a n c) T)::l)) (hn:T.length=n) (hi:i<n) :
  Calls Tryz.prog 148 #[.int .i64 (i:Int),.pointer (some ⟨b,0,none⟩)] w (Ret w0 fun v l'=>v=.int .i64 (oA T i)∧l'=Blk b (.cells #[.pointer (some ⟨pw,0,none⟩)] 100 (0,0))::Blk pw (.cells #[.pointer (some ⟨pt,0,none⟩),y1,.slice a n c,y3,y4] 251 (0,0))::Row 3 encI64 (.slice a n c) T::l):=by
 refine calls_enter Tryz.func148 rfl rfl rfl hs ?_
 refine R10 ?_
 refine oq (op_index i sB_39 rfl rfl rfl (rds_row 2 rfl rfl) (by omega) (by omega)) ?_
 refine oq (op_ldw sc_3 (rds_row 2 rfl rfl) rfl (by omega) rfl) ?_
 refine R4 ?_
 exact px_ret1 rfl (v:=.int _ _) rfl (fun _ s=>s) ⟨congrArg (Value.int .i64) (by rw [oA_get (show i<T.length by omega)]),rfl⟩
theorem ofWeight_calls {w0 w:World} {l:List HProp} (pw pt b:Nat) (t:TreeS) (o sm be lf:List Int) (r:Root) (hs:Sat w0 w ((TreeObj pt t)::(WRaw pw pt o sm be lf)::(Blk b (.cells #[.pointer (some ⟨pw,0,none⟩)] 100 (0,0)))::l)) (h2:sm.length=o.length) :
  Calls Tryz.prog 147 #[.pointer (some ⟨pw,0,none⟩),.agg (rootC r).toArray,.func (.func 148) #[] #[.pointer (some ⟨b,0,none⟩)]] w (Ret w0 fun v l'=>v=.int .i64 (ofF t o.length (oA sm) r)∧l'=TreeObj pt t::WRaw pw pt o sm be lf::Blk b (.cells #[.pointer (some ⟨pw,0,none⟩)] 100 (0,0))::l):=by
 have hw:=hs.treeWF
 have hm1:=hw.m1;have hm2:=hw.m2;have hle:=hw.le;have hne:=hw.ne;have hpa:=hw.pa;have hnd:=hw.nd
 obtain ⟨a1,c1,a2,c2,a3,c3,a4,c4,hs⟩:=(hs.pull 1).wrawOpen
 refine calls_enter Tryz.func147 rfl rfl rfl hs ?_
 refine Z5 ?_;intro bx1
 refine R6 ?_
 refine oq (op_eqnil Tryz.underlying100 rfl rfl) ?_
 refine Zi ?_
 refine R3 ?_
 refine cd_pull6 ?_
 refine R1 ?_
 refine cd_draw (M:=[_]) mx [5] (by kernel_rfl) ?_
 refine R5 ?_
 refine rg_i (wn_none rfl) (os_call cb_16 rfl (fun w s=>Place_calls _ _ _  s )) rfl rfl ?_;rintro _ _ ⟨rfl,rfl⟩;refine ⟨[_],rfl,?_⟩
 refine Z2y ?_
 refine R4 ?_
 refine ols 18 rfl ?_ ?_
 ·intro hb1 hp1
  refine Zv ?_
  refine Z3q ?_
  refine Z48 ?_
  refine ol_q (wn_some rfl rfl rfl hb1 rfl) (op_field fld_251_1 rfl) rfl ?_
  refine ol_q (wn_some rfl rfl rfl hb1 rfl) (op_ld 2 sc_39 rfl rfl rfl) rfl ?_
  refine Z9w ?_
  refine Z5e ?_
  refine Zq ?_
  refine Z8 ?_ ?_
  ·intro hb2 hp2
   obtain ⟨i,hpi,hin,hof⟩:=ofF_yes (t:=t) (n:=o.length) (f:=(oA sm)) (r:=r) (by omega) (by omega)
   rw [hpi]
   refine R1 ?_
   refine Z4r ?_
   refine R1 ?_
   refine ol_pull4 ?_
   refine Zg ?_
   refine ol_pull7 ?_
   refine oi (os_callv (C:=[_]) (vs:=[_]) cb_148 rfl rfl (fun w s=>Weight1_calls _ _ _ _ _ _ _ _ _ _ _  s (by first | rfl | omega) (by omega))) ?_;rintro _ _ ⟨rfl,rfl⟩
   refine R5 ?_
   exact px_ret1 rfl (v:=.int _ _) (l':=TreeObj pt t::WRaw pw pt o sm be lf::Blk b (.cells #[.pointer (some ⟨pw,0,none⟩)] 100 (0,0))::l) rfl (fun _ s=>((Sat.wrawMk rfl rfl rfl rfl (s.arr 8 [1,5,2,6,7,3,0])).pull 1)) ⟨congrArg (Value.int .i64) (hof.symm),rfl⟩
  intro hb2 hp2
  refine R7 ?_
  exact Zbm
 intro hb1 hp1
 refine Z2n ?_
 refine Z1e ?_
 refine Z24 ?_
 refine Zf ?_
 refine Z2o ?_
 exact Zbm
theorem ofF_congr {t:TreeS} {n:Nat} {f g:Nat→Int} {r:Root} (h:∀ i,i<n→f i=g i):ofF t n f r=ofF t n g r:=by
 unfold ofF
 cases idxOf t.nodes r with
 | none=>rfl
 | some i =>
  dsimp only
  by_cases hi:i<n
  ·rw [if_pos hi,if_pos hi,h i hi]
  ·rw [if_neg hi,if_neg hi]
theorem Weight_calls {w0 w:World} {l:List HProp} (pw pt:Nat) (t:TreeS) (o:List Int) (r:Root) (hs:Sat w0 w ((TreeObj pt t)::(WObj pw pt t.nodes o)::l))  :
  Calls Tryz.prog 104 #[.pointer (some ⟨pw,0,none⟩),.agg (rootC r).toArray] w (Ret w0 fun v l'=>v=.int .i64 (ofF t o.length (sumN t.nodes o) r)∧l'=TreeObj pt t::WObj pw pt t.nodes o::l):=by
 have hw:=hs.treeWF
 have hm1:=hw.m1;have hm2:=hw.m2;have hle:=hw.le;have hpa:=hw.pa;have hnd:=hw.nd
 have hsl:=sumL_len t.nodes o
 have hbl:=bestL_len t.nodes (sumL t.nodes o)
 have hll:=leafL_len t.nodes (sumL t.nodes o)
 refine calls_enter Tryz.func104 rfl rfl rfl hs ?_
 refine R1 ?_
 refine oi (os_box (v:=.pointer _) rfl rfl) ?_;rintro _ _ ⟨bx1,rfl,rfl⟩
 refine Z19 ?_;intro bx2
 refine R6 ?_
 refine oq (op_makefunc (F:=[]) (C:=[_]) rfl rfl) ?_
 refine Z2 ?_
 refine Zg ?_
 refine Zg ?_
 refine oi (os_call cb_147 rfl (fun w s=>ofWeight_calls _ _ _ _ _ _ _ _ _  s (by first | assumption | omega | (simp;done)))) ?_;rintro _ _ ⟨rfl,rfl⟩
 refine R4 ?_
 exact px_ret1 rfl (v:=.int _ _) rfl (fun _ s=>((s.del 3).del 2)) ⟨congrArg (Value.int .i64) (ofF_congr fun i hi=>sumL_at hi),rfl⟩
end Go.SL
