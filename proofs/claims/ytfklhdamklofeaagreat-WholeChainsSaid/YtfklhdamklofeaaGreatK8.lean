import Derived.Test.YtfklhdamklofeaaGreatK7
set_option linter.unusedVariables false
set_option linter.unusedSimpArgs false
set_option linter.unusedSectionVars false
set_option maxHeartbeats 1000000
set_option maxRecDepth 100000
namespace Go.SL
open Go.Proofs
theorem Head_calls {w0 w:World} {l:List HProp} (pw pt:Nat) (t:TreeS) (o:List Int) (hs:Sat w0 w ((TreeObj pt t)::(WObj pw pt t.nodes o)::l)) (h1:o.length≤t.nodes.length) (h0:0<o.length) :
  Calls Tryz.prog 89 #[.pointer (some ⟨pw,0,none⟩)] w (Ret w0 fun v l'=>v=.agg (rootC (headW t.nodes o)).toArray∧l'=TreeObj pt t::WObj pw pt t.nodes o::l):=by
 have hw:=hs.treeWF
 have hm1:=hw.m1;have hm2:=hw.m2;have hle:=hw.le;have hne:=hw.ne;have hpa:=hw.pa;have hnd:=hw.nd
 have hsl:=sumL_len t.nodes o
 have hbl:=bestL_len t.nodes (sumL t.nodes o)
 have hll:=leafL_len t.nodes (sumL t.nodes o)
 have hl0:(leafL t.nodes (sumL t.nodes o))[0]'(by omega)=((leafN t.nodes (oA (sumL t.nodes o)) o.length 0:Nat):Int):=by rw [←oA_get,leafL_at (by omega),hsl]
 refine calls_enter Tryz.func89 rfl rfl rfl hs ?_
 refine R1 ?_
 refine Zp ?_;intro bx1
 refine R5 ?_
 refine oq (op_eqnil Tryz.underlying100 rfl rfl) ?_
 refine Zi ?_
 refine R2 ?_
 refine cd_pull2 ?_
 refine cd_wrawOpen ?_;intro a1 c1 a2 c2 a3 c3 a4 c4
 refine cd_pull6 ?_
 refine R1 ?_
 refine cd_drawe (M:=[_]) mx [10,14,15] ?_
 refine Z4t ?_
 refine e_q 1 rfl (wn_none rfl) (op_nilck rfl) ?_
 refine e_q 2 rfl (wn_none rfl) (op_field fld_251_0 rfl) ?_
 refine e_q 3 rfl (wn_none rfl) (op_ld 0 sc_53 rfl rfl rfl) ?_
 refine e_q 4 rfl (wn_none rfl) (op_move (v:=.pointer _) rfl) ?_
 refine e_q 5 rfl (wn_none rfl) (op_nilck rfl) ?_
 refine e_q 6 rfl (wn_none rfl) (op_field fld_251_4 rfl) ?_
 refine e_q 7 rfl (wn_none rfl) (op_ld 0 sc_39 rfl rfl rfl) ?_
 refine e_q 8 rfl (wn_none rfl) (op_index 0 sB_39 rfl rfl rfl (rds_row 4 rfl rfl) rfl (by omega)) ?_
 refine e_q 9 rfl (wn_none rfl) (op_ldw sc_3 (rds_row 4 rfl rfl) rfl (by omega) rfl) ?_
 refine et_2 (i1:=10) (i2:=14) (by kernel_rfl) ?_ ?_
 ·
  refine ei_i rfl rfl (wn_none rfl) (os_call cb_75 rfl (fun w s=>Node_calls _ _ _  s )) rfl ?_;rintro _ _ ⟨rfl,rfl⟩;rw [hl0,TreeS.node_at];refine ⟨[_],rfl,?_⟩
  refine e_q 11 rfl (wn_none rfl) (op_move (v:=.tuple _) rfl) ?_
  refine e_q 12 rfl (wn_none rfl) (op_extract (v:=.agg _) rfl rfl) ?_
  refine e_q 13 rfl (wn_none rfl) (op_extract (v:=.bool _) rfl rfl) ?_
  refine Z3h ?_
  refine ei_i rfl rfl (wn_none rfl) (os_alloc (cs:=(nodeC Node.zero).toArray) zB_169 (by kernel_rfl)) rfl ?_;rintro _ _ ⟨bx2,rfl,rfl⟩;refine ⟨[_,_],rfl,?_⟩
  refine Z2s ?_
  refine ei_iN rfl rfl (wn_none rfl) (os_storew (nodeC _) ag_169 rfl rfl (nodeC_len _) (nodeC_one _) (by simp [nodeC_len]) (Free.zero _)) ?_;rintro _ _ ⟨rfl,rfl⟩;refine ⟨[_,_],rfl,?_⟩
  refine e_q 16 rfl (wn_none rfl) (op_assign (v:=.bool _) rfl) ?_
  refine Z4b ?_
  refine R3 ?_
  refine ol_pull7 ?_
  refine Z18 ?_
  exact Zbn
 refine ei_i rfl rfl (wn_none rfl) (os_alloc (cs:=(nodeC Node.zero).toArray) zB_169 (by kernel_rfl)) rfl ?_;rintro _ _ ⟨bx3,rfl,rfl⟩;refine ⟨[_,_],rfl,?_⟩
 refine Z1c ?_
 refine ei_i rfl rfl (wn_none rfl) (os_pull1 (os_call cb_75 rfl (fun w s=>Node_calls _ _ _  s ))) rfl ?_;rintro _ _ ⟨rfl,rfl⟩;rw [hl0,TreeS.node_at];refine ⟨[_,_],rfl,?_⟩
 refine e_q 11 rfl (wn_none rfl) (op_move (v:=.tuple _) rfl) ?_
 refine e_q 12 rfl (wn_none rfl) (op_extract (v:=.agg _) rfl rfl) ?_
 refine e_q 13 rfl (wn_none rfl) (op_extract (v:=.bool _) rfl rfl) ?_
 refine Z2s ?_
 refine ei_iN rfl rfl (wn_none rfl) (os_pull1 (os_storew (nodeC _) ag_169 rfl rfl (nodeC_len _) (nodeC_one _) (by simp [nodeC_len]) (Free.zero _))) ?_;rintro _ _ ⟨rfl,rfl⟩;refine ⟨[_,_],rfl,?_⟩
 refine e_q 16 rfl (wn_none rfl) (op_assign (v:=.bool _) rfl) ?_
 refine Z4b ?_
 refine R3 ?_
 refine ol_pull7 ?_
 refine Z18 ?_
 exact Zbn
theorem WNew_calls {w0 w:World} {l:List HProp} (pt:Nat) (t:TreeS) (hs:Sat w0 w ((TreeObj pt t)::l))  :
  Calls Tryz.prog 96 #[.pointer (some ⟨pt,0,none⟩)] w (Ret w0 fun v l'=>∃ pw,v=.pointer (some ⟨pw,0,none⟩)∧l'=WObj pw pt t.nodes (growO t.nodes.length [])::TreeObj pt t::l):=by
 have hw:=hs.treeWF
 have hm1:=hw.m1;have hm2:=hw.m2;have hle:=hw.le;have hne:=hw.ne
 refine calls_enter Tryz.func96 rfl rfl rfl hs ?_
 refine R7 ?_
 refine Z9z ?_
 refine Z6 ?_ ?_
 ·intro hb1 hp1
  omega
 intro hb1 hp1
 refine R4 ?_
 refine oq (op_build (L:=[_,_,_,_,_]) (vs:=[(0,.pointer _)]) bB_251 rfl ⟨⟨rfl,rfl⟩,trivial⟩ rfl) ?_
 refine Z19 ?_;intro bx1
 refine R3 ?_
 refine cd_imp (fun _ s=>Sat.wrawMk (pw:=bx1) (pt:=pt) (o:=[]) (sm:=[]) (be:=[]) (lf:=[]) rfl rfl rfl rfl ((((s.rowNil (E:=encI64) (e:=3)).rowNil (E:=encI64) (e:=3)).rowNil (E:=encI64) (e:=3)).rowNil (E:=encI64) (e:=3) |>.pull 4)) ?_
 refine Z32 ?_
 refine oi (os_call cb_143 rfl (fun w s=>grow_calls _ _ _ _ _ _ _  s (Nat.zero_le _) (Nat.zero_le _) (Nat.zero_le _) (Nat.zero_le _))) ?_;rintro _ _ ⟨rfl,rfl⟩;rw [show ([]:List Int)++List.replicate (t.nodes.length-([]:List Int).length) 0=sumL t.nodes (growO t.nodes.length []) from sumL_grow t.nodes [] t.nodes.length]
 refine R4 ?_
 refine Z2 ?_
 refine Z2 ?_
 refine oi (os_call cb_144 rfl (fun w s=>rank_calls _ _ _ _ _ _ _  s (by rw [sumL_len];exact growO_len (Nat.zero_le _)) (by simp) (by simp))) ?_;rintro _ _ ⟨rfl,rfl⟩
 refine R8 ?_
 exact px_ret1 rfl (v:=.pointer _) rfl (fun _ s=>(s.pull 1)) ⟨_,rfl,rfl⟩
theorem TNewOk_calls {w0 w:World} {l:List HProp} (r:Root) (slot most:Int) (hs:Sat w0 w l) (h:1≤most∧most≤256∧0≤slot∧slot≤1073741824) :
  Calls Tryz.prog 94 #[.agg (rootC r).toArray,.int .i64 slot,.int .i64 most] w (Ret w0 fun v l'=>∃ p,v=.tuple #[.pointer (some ⟨p,0,none⟩),.int .i64 0]∧l'=TreeObj p (TreeS.new r slot most)::l) :=
 (TNew_calls r slot most hs).mono fun e w' ⟨v,l',he,hp,hs'⟩=>by
  rcases hp with ⟨_,_,hb⟩ | ⟨p,hv,_,hl⟩
  ·omega
  exact ⟨v,l',he,⟨p,hv,hl⟩,hs'⟩
/-- the reference's tree: all that it owns -/
def RTreeObj (p:Nat) (t:TreeS):HProp:=ex fun x:(Option Addr×Nat×Option Addr×Nat×Option Addr×Nat)×(List Root×List Int×List Root) =>
 match x with | ((a1,c1,a2,c2,a3,c3),(R,Sl,Pa))=>stars (pr (t.WF∧RTreeOf t R Sl Pa)::Blk p (.cells #[.slice a1 R.length c1,.slice a2 Sl.length c2,.slice a3 Pa.length c3,.int .i64 t.most] 259 (0,0))::Row 35 encRoot (.slice a1 R.length c1) R::Row 3 encI64 (.slice a2 Sl.length c2) Sl::Row 35 encRoot (.slice a3 Pa.length c3) Pa::[])
theorem Sat.rtreeMk {w0 w:World} {l:List HProp} {p:Nat} {t:TreeS} {a1 a2 a3:Option Addr} {c1 c2 c3 m1 m2 m3:Nat} {R:List Root} {Sl:List Int} {Pa:List Root} (hw:t.WF) (hr:RTreeOf t R Sl Pa) (h1:m1=R.length) (h2:m2=Sl.length) (h3:m3=Pa.length)
  (s:Sat w0 w (Blk p (.cells #[.slice a1 m1 c1,.slice a2 m2 c2,.slice a3 m3 c3,.int .i64 t.most] 259 (0,0))::Row 35 encRoot (.slice a1 m1 c1) R::Row 3 encI64 (.slice a2 m2 c2) Sl::Row 35 encRoot (.slice a3 m3 c3) Pa::l)):Sat w0 w (RTreeObj p t::l):=by
 subst h1 h2 h3
 exact Sat.ex_iff.2 ⟨((a1,c1,a2,c2,a3,c3),(R,Sl,Pa)),Sat.stars_iff.2 (Sat.pr_iff.2 ⟨⟨hw,hr⟩,s⟩)⟩
theorem RTNew_calls {w0 w:World} {l:List HProp} (r:Root) (slot most:Int) (hs:Sat w0 w (l))  :
  Calls Tryz.prog 108 #[.agg (rootC r).toArray,.int .i64 slot,.int .i64 most] w (Ret w0 fun v l'=>(v=.tuple #[.pointer none,.bool false]∧l'=l∧(most<1∨256<most∨slot<0∨1073741824<slot))∨∃ p,v=.tuple #[.pointer (some ⟨p,0,none⟩),.bool true]∧(1≤most∧most≤256∧0≤slot∧slot≤1073741824)∧l'=RTreeObj p (TreeS.new r slot most)::l):=by
 refine calls_enter Tryz.func108 rfl rfl rfl hs ?_
 refine Z5 ?_;intro bx1
 refine R9 ?_
 refine ols 10 rfl ?_ ?_
 ·intro hb1 hp1
  refine Z1e ?_
  refine Zq ?_
  refine Z1r ?_
  refine Zr ?_
  refine Z1r ?_
  refine Z44 ?_
  refine R7 ?_
  exact Z8m
 intro hb1 hp1
 refine Zv ?_
 refine Z3r ?_
 refine Zf ?_
 refine R1 ?_
 refine ols 14 rfl ?_ ?_
 ·intro hb2 hp2
  refine Zx ?_
  refine Z1w ?_
  refine Z1r ?_
  refine Z44 ?_
  refine R7 ?_
  exact Z8m
 intro hb2 hp2
 refine Z2a ?_
 refine Z49 ?_
 refine Z1o ?_
 refine R1 ?_
 refine ols 18 rfl ?_ ?_
 ·intro hb3 hp3
  refine Z1b ?_
  refine Z25 ?_
  refine Zh ?_
  refine R7 ?_
  exact Z8m
 intro hb3 hp3
 refine Z2h ?_
 refine Z3g ?_
 refine Z1v ?_
 refine Z8 ?_ ?_
 ·intro hb4 hp4
  refine R7 ?_
  exact Z8m
 intro hb4 hp4
 refine R4 ?_
 refine Za0 ?_;intro ao1
 refine R1 ?_
 refine Z4k ?_;intro ao2
 refine oq (op_buildr rfl rB_35 zBr_35) ?_
 refine Za0 ?_;intro ao3
 refine R1 ?_
 refine oq (op_build (L:=[_,_,_,_]) (vs:=[(0,.slice _ _ _),(1,.slice _ _ _),(2,.slice _ _ _),(3,.int _ _)]) bB_259 rfl ⟨⟨rfl,rfl⟩,⟨rfl,rfl⟩,⟨rfl,rfl⟩,⟨rfl,rfl⟩,trivial⟩ rfl) ?_
 refine Z19 ?_;intro bx2
 refine R5 ?_
 exact px_ret2 rfl (v1:=.pointer _) (v2:=.bool _) (l':=RTreeObj _ (TreeS.new r slot most)::l) rfl rfl (fun _ s=>Sat.rtreeMk (t:=TreeS.new r slot most) (TreeS.WF.new (by omega) (by omega) (by omega) (by omega)) ⟨rfl,rfl,rfl⟩ rfl rfl rfl (s.arr 5 [0,3,2,1])) (.inr ⟨_,rfl,by omega,rfl⟩)
def VoteObj (q:Nat) (v:Vote):HProp:=Blk q (.cells (voteC v).toArray 88 (0,0))
theorem laidOut:laidOutB Tryz.prog=true:=by kernel_rfl
theorem keyed_mark:Go.Maps.Keyed Tryz.prog 239:=Go.Maps.Keyed.of_law (deep_law_laid laidOut (m:=3) (by omega) (show 239<Tryz.prog.types.size from Nat.le_of_ble_eq_true (by kernel_rfl)) (by kernel_rfl) (by kernel_rfl))
def TabParts (p:Nat) (t:TabS) (a1:Option Addr) (c1:Nat) (a2:Option Addr) (c2:Nat) (b:Nat) (ps:List (Option Addr)):List HProp :=
 [Blk p (.cells #[.int .i64 t.slots,.slice a1 ps.length c1,.slice a2 t.out.length c2,.map (some b)] 205 (0,0)),Row 206 encPtr (.slice a1 ps.length c1) ps,Row 4 encBool (.slice a2 t.out.length c2) t.out,MapO EK2 EVR b t.first,PtrsO VoteObj ps t.latest]
/-- a table: all that it owns -/
def TabObj (p:Nat) (t:TabS):HProp:=ex fun x:Option Addr×Nat×Option Addr×Nat×Nat×List (Option Addr)=>stars (pr t.WF::TabParts p t x.1 x.2.1 x.2.2.1 x.2.2.2.1 x.2.2.2.2.1 x.2.2.2.2.2)
theorem Sat.tabOpen {w0 w:World} {l:List HProp} {p:Nat} {t:TabS} (s:Sat w0 w (TabObj p t::l)):∃ a1 c1 a2 c2 b ps,t.WF∧ps.length=t.latest.length∧Sat w0 w (TabParts p t a1 c1 a2 c2 b ps++l):=by
 obtain ⟨⟨a1,c1,a2,c2,b,ps⟩,s⟩:=Sat.ex_iff.1 s
 have s1:=Sat.stars_iff.1 s
 obtain ⟨hw,s2⟩:=Sat.pr_iff.1 s1
 exact ⟨a1,c1,a2,c2,b,ps,hw,(s2.pull 4).ptrs_len,s2⟩
theorem Sat.tabMk {w0 w:World} {l:List HProp} {p:Nat} {t:TabS} {a1:Option Addr} {c1:Nat} {a2:Option Addr} {c2:Nat} {b:Nat} {ps:List (Option Addr)} {m1 m2:Nat} (hw:t.WF) (h1:m1=ps.length) (h2:m2=t.out.length)
  (s:Sat w0 w (Blk p (.cells #[.int .i64 t.slots,.slice a1 m1 c1,.slice a2 m2 c2,.map (some b)] 205 (0,0))::Row 206 encPtr (.slice a1 m1 c1) ps::Row 4 encBool (.slice a2 m2 c2) t.out::MapO EK2 EVR b t.first::PtrsO VoteObj ps t.latest::l)):Sat w0 w (TabObj p t::l):=by
 subst h1 h2
 exact Sat.ex_iff.2 ⟨(a1,c1,a2,c2,b,ps),Sat.stars_iff.2 (Sat.pr_iff.2 ⟨hw,s⟩)⟩
theorem Sat.tabWF {w0 w:World} {l:List HProp} {p:Nat} {t:TabS} (s:Sat w0 w (TabObj p t::l)):t.WF:=let ⟨_,_,_,_,_,_,h,_⟩:=s.tabOpen;h
theorem is_calls {w0 w:World} {l:List HProp} (p:Nat) (sl:Int) (a1:Option Addr) (m c1:Nat) (x y:Value) (who:Int) (hs:Sat w0 w ((Blk p (.cells #[.int .i64 sl,.slice a1 m c1,x,y] 205 (0,0)))::l))  :
  Calls Tryz.prog 107 #[.pointer (some ⟨p,0,none⟩),.int .i64 who] w (Ret w0 fun v l'=>v=.bool (decide (0≤who) && decide (who<m))∧l'=Blk p (.cells #[.int .i64 sl,.slice a1 m c1,x,y] 205 (0,0))::l):=by
 refine calls_enter Tryz.func107 rfl rfl rfl hs ?_
 refine R6 ?_
 refine oq (op_nenil Tryz.underlying101 rfl rfl) ?_
 refine R1 ?_
 refine Z3f ?_
 refine ol_q (wn_some rfl rfl rfl rfl rfl) (op_ge rfl rfl) rfl ?_
 refine Zr ?_
 refine R1 ?_
 refine ols 11 rfl ?_ ?_
 ·intro hb1 hp1
  refine Zv ?_
  refine Z3q ?_
  refine Z48 ?_
  refine ol_q (wn_some rfl rfl rfl hb1 rfl) (op_field fld_205_1 rfl) rfl ?_
  refine ol_q (wn_some rfl rfl rfl hb1 rfl) (op_ld 0 sc_202 rfl rfl rfl) rfl ?_
  refine ol_q (wn_some rfl rfl rfl hb1 rfl) (op_len_slice Tryz.underlying202 rfl) rfl ?_
  refine Z5e ?_
  refine Zq ?_
  refine R4 ?_
  exact px_ret1 rfl (v:=.bool _) rfl (fun _ s=>s) ⟨congrArg Value.bool (by simp [*]),rfl⟩
 intro hb1 hp1
 refine Z2n ?_
 refine Z1e ?_
 refine Z24 ?_
 refine Zf ?_
 refine R4 ?_
 exact px_ret1 rfl (v:=.bool _) rfl (fun _ s=>s) ⟨congrArg Value.bool (by simp [*]),rfl⟩
theorem New_calls {w0 w:World} {l:List HProp} (n sl:Int) (hs:Sat w0 w (l))  :
  Calls Tryz.prog 97 #[.int .i64 n,.int .i64 sl] w (Ret w0 fun v l'=>(v=.pointer none∧l'=l∧(n<1∨64<n∨sl<1∨32<sl))∨∃ p,v=.pointer (some ⟨p,0,none⟩)∧(1≤n∧n≤64∧1≤sl∧sl≤32)∧l'=TabObj p (TabS.new n.toNat sl)::l):=by
 refine calls_enter Tryz.func97 rfl rfl rfl hs ?_
 refine R9 ?_
 refine ols 7 rfl ?_ ?_
 ·intro hb1 hp1
  refine Z1e ?_
  refine Zq ?_
  refine Z1r ?_
  refine Zr ?_
  refine Z1r ?_
  refine Z2g ?_
  exact Z8n
 intro hb1 hp1
 refine Zv ?_
 refine Z3r ?_
 refine Zf ?_
 refine R1 ?_
 refine ols 11 rfl ?_ ?_
 ·intro hb2 hp2
  refine Zx ?_
  refine Z1w ?_
  refine Z1r ?_
  refine Z2g ?_
  exact Z8n
 intro hb2 hp2
 refine Z2a ?_
 refine Z49 ?_
 refine Z1o ?_
 refine R1 ?_
 refine ols 15 rfl ?_ ?_
 ·intro hb3 hp3
  refine Z1b ?_
  refine Z25 ?_
  refine Zh ?_
  refine R6 ?_
  exact Z8n
 intro hb3 hp3
 refine Z2h ?_
 refine Z3g ?_
 refine Z1v ?_
 refine Z8 ?_ ?_
 ·intro hb4 hp4
  refine R6 ?_
  exact Z8n
 intro hb4 hp4
 refine R3 ?_
 refine cd_drawe (M:=[]) mx [2,4,5,7] ?_
 refine Z4x ?_
 refine Z4s ?_
 refine Z6h ?_
 refine et_3 (i1:=2) (i2:=4) (i3:=5) (by kernel_rfl) ?_ ?_ ?_
 ·
  refine ei_i rfl rfl (wn_none rfl) (os_make (E:=encPtr) (_) (none) sB_202 zv_206 rfl rfl rfl (Int.toNat_of_nonneg (by omega)).symm (by omega) (by unfold maxLen;omega)) rfl ?_;rintro _ _ ⟨ao1,rfl,rfl⟩;refine ⟨[_],rfl,?_⟩
  refine et_2 (i1:=4) (i2:=5) (by kernel_rfl) ?_ ?_
  ·
   refine Z61 ?_;intro ao2
   refine Z2e ?_
   refine ei_i rfl rfl (wn_none rfl) (os_makeMap) rfl ?_;rintro _ _ ⟨mp1,rfl,rfl⟩;refine ⟨[_,_,_],rfl,?_⟩
   refine Z62 ?_
   refine Zc ?_
   refine Z2x ?_;intro bx2
   refine Z63 ?_
   refine Z9 ?_
   refine px_ret1 rfl (v:=.pointer _) (l':=TabObj _ (TabS.new n.toNat sl)::l) rfl (fun _ s=>?_) (.inr ⟨_,rfl,by omega,rfl⟩)
   have s2:=Sat.head_iff (Sat.emp_cons ((Sat.pull 3 (s.arr 4 [0,3,2,1])).mapNew EK2 EVR)) (ptrs_none (F:=VoteObj) n.toNat).symm
   exact Z64
  refine ei_i rfl rfl (wn_none rfl) (os_makeMap) rfl ?_;rintro _ _ ⟨mp3,rfl,rfl⟩;refine ⟨[_,_],rfl,?_⟩
  refine Z1d ?_
  refine Z65 ?_;intro ao3
  refine Z62 ?_
  refine Zc ?_
  refine Z2x ?_;intro bx4
  refine Z63 ?_
  refine Z9 ?_
  refine px_ret1 rfl (v:=.pointer _) (l':=TabObj _ (TabS.new n.toNat sl)::l) rfl (fun _ s=>?_) (.inr ⟨_,rfl,by omega,rfl⟩)
  have s2:=Sat.head_iff (Sat.emp_cons ((Sat.pull 3 (s.arr 4 [0,3,1,2])).mapNew EK2 EVR)) (ptrs_none (F:=VoteObj) n.toNat).symm
  exact Z64
 ·
  refine Za1 ?_;intro ao4
  refine et_2 (i1:=2) (i2:=5) (by kernel_rfl) ?_ ?_
  ·
   refine Zbo ?_;intro ao5
   refine Z2e ?_
   refine ei_i rfl rfl (wn_none rfl) (os_makeMap) rfl ?_;rintro _ _ ⟨mp5,rfl,rfl⟩;refine ⟨[_,_,_],rfl,?_⟩
   refine Z62 ?_
   refine Zc ?_
   refine Z2x ?_;intro bx6
   refine Z63 ?_
   refine Z9 ?_
   refine px_ret1 rfl (v:=.pointer _) (l':=TabObj _ (TabS.new n.toNat sl)::l) rfl (fun _ s=>?_) (.inr ⟨_,rfl,by omega,rfl⟩)
   have s2:=Sat.head_iff (Sat.emp_cons ((Sat.pull 3 (s.arr 4 [0,2,3,1])).mapNew EK2 EVR)) (ptrs_none (F:=VoteObj) n.toNat).symm
   exact Z64
  refine ei_i rfl rfl (wn_none rfl) (os_makeMap) rfl ?_;rintro _ _ ⟨mp7,rfl,rfl⟩;refine ⟨[_,_],rfl,?_⟩
  refine Z4y ?_
  refine Zbp ?_;intro ao6
  refine Z62 ?_
  refine Zc ?_
  refine Z2x ?_;intro bx8
  refine Z63 ?_
  refine Z9 ?_
  refine px_ret1 rfl (v:=.pointer _) (l':=TabObj _ (TabS.new n.toNat sl)::l) rfl (fun _ s=>?_) (.inr ⟨_,rfl,by omega,rfl⟩)
  have s2:=Sat.head_iff (Sat.emp_cons ((Sat.pull 3 (s.arr 4 [0,1,3,2])).mapNew EK2 EVR)) (ptrs_none (F:=VoteObj) n.toNat).symm
  exact Z64
 refine ei_i rfl rfl (wn_none rfl) (os_makeMap) rfl ?_;rintro _ _ ⟨mp9,rfl,rfl⟩;refine ⟨[_],rfl,?_⟩
 refine et_2 (i1:=2) (i2:=4) (by kernel_rfl) ?_ ?_
 ·
  refine Zbo ?_;intro ao7
  refine Z1d ?_
  refine Z65 ?_;intro ao8
  refine Z62 ?_
  refine Zc ?_
  refine Z2x ?_;intro bx10
  refine Z63 ?_
  refine Z9 ?_
  refine px_ret1 rfl (v:=.pointer _) (l':=TabObj _ (TabS.new n.toNat sl)::l) rfl (fun _ s=>?_) (.inr ⟨_,rfl,by omega,rfl⟩)
  have s2:=Sat.head_iff (Sat.emp_cons ((Sat.pull 3 (s.arr 4 [0,2,1,3])).mapNew EK2 EVR)) (ptrs_none (F:=VoteObj) n.toNat).symm
  exact Z64
 refine Z61 ?_;intro ao9
 refine Z4y ?_
 refine Zbp ?_;intro ao10
 refine Z62 ?_
 refine Zc ?_
 refine Z2x ?_;intro bx11
 refine Z63 ?_
 refine Z9 ?_
 refine px_ret1 rfl (v:=.pointer _) (l':=TabObj _ (TabS.new n.toNat sl)::l) rfl (fun _ s=>?_) (.inr ⟨_,rfl,by omega,rfl⟩)
 have s2:=Sat.head_iff (Sat.emp_cons ((Sat.pull 3 s).mapNew EK2 EVR)) (ptrs_none (F:=VoteObj) n.toNat).symm
 exact Z64
theorem TVote_calls {w0 w:World} {l:List HProp} (p:Nat) (t:TabS) (who:Int) (hs:Sat w0 w ((TabObj p t)::l))  :
  Calls Tryz.prog 61 #[.pointer (some ⟨p,0,none⟩),.int .i64 who] w (Ret w0 fun r l'=>r=.tuple #[.agg (voteC ((t.vote who).getD Vote.zero)).toArray,.bool (t.vote who).isSome]∧l'=TabObj p t::l):=by
 obtain ⟨a1,c1,a2,c2,b,ps,hw,hal,hs⟩:=hs.tabOpen
 unfold TabParts at hs;simp only [List.cons_append,List.nil_append] at hs
 have hs1:=hw.s1;have hs2:=hw.s2;have hn1:=hw.n1;have hlo:=hw.lo
 refine calls_enter Tryz.func61 rfl rfl rfl hs ?_
 refine R1 ?_
 refine Z8o ?_;intro bx1
 refine R4 ?_
 refine cd_pull5 ?_
 by_cases hv:t.isV who=true
 ·obtain ⟨hv1,hv2⟩:=TabS.isV_iff.1 hv
  refine cd_ptrs who.toNat (by omega) (fun hvq haq=>?_) (fun q u hvq haq=>?_)
  ·have hlv:t.vote who=none:=by rw [TabS.vote_at ⟨hv1,hv2⟩,List.getD_eq_getElem?_getD,hvq];rfl
   have hae:ps[who.toNat]=_:=(List.getElem_eq_iff (by omega)).2 haq
   refine R3 ?_
   refine Z7 ?_
   refine oi (os_call cb_107 rfl (fun w s=>is_calls _ _ _ _ _ _ _ _  s )) ?_;rintro _ _ ⟨rfl,rfl⟩;have his:(decide (0≤who) && decide (who<(ps.length:Int)))=t.isV who:=by unfold TabS.isV;rw [hal]
   refine R2 ?_
   refine ols 10 rfl ?_ ?_
   ·intro hb1 hp1
    exact absurd hb1 (by rw [his,hv];decide)
   intro hb1 hp1
   refine Z3q ?_
   refine Z48 ?_
   refine ol_q (wn_some rfl rfl rfl hb1 rfl) (op_field fld_205_1 rfl) rfl ?_
   refine ol_q (wn_some rfl rfl rfl hb1 rfl) (op_ld 0 sc_202 rfl rfl rfl) rfl ?_
   refine Zv ?_
   refine ol_q (wn_some rfl rfl rfl hb1 rfl) (op_index _ sB_202 rfl rfl (Int.toNat_of_nonneg (by omega)).symm (rds_row 3 rfl rfl) rfl (by omega)) rfl ?_
   refine ol_q (wn_some rfl rfl rfl hb1 rfl) (op_ldw (v:=.pointer none) sc_206 (rds_row 3 rfl rfl) rfl (by omega) (congrArg (fun q=>some (Value.pointer q)) hae)) rfl ?_
   refine ol_q (wn_some rfl rfl rfl hb1 rfl) (op_eqnil Tryz.underlying206 rfl rfl) rfl ?_
   refine Zf ?_
   refine Zh ?_
   refine R1 ?_
   refine oq (op_build (L:=voteC _) (vs:=[]) bB_88 rfl trivial rfl) ?_
   refine Z7 ?_
   refine Z66 ?_
   refine R5 ?_
   rw [hlv]
   exact Zbq
  have hlv:t.vote who=some u:=by rw [TabS.vote_at ⟨hv1,hv2⟩,List.getD_eq_getElem?_getD,hvq];rfl
  have hae:ps[who.toNat]=_:=(List.getElem_eq_iff (by omega)).2 haq
  refine R3 ?_
  refine Zg ?_
  refine oi (os_call cb_107 rfl (fun w s=>is_calls _ _ _ _ _ _ _ _  s )) ?_;rintro _ _ ⟨rfl,rfl⟩;have his:(decide (0≤who) && decide (who<(ps.length:Int)))=t.isV who:=by unfold TabS.isV;rw [hal]
  refine R2 ?_
  refine ols 10 rfl ?_ ?_
  ·intro hb2 hp2
   exact absurd hb2 (by rw [his,hv];decide)
  intro hb2 hp2
  refine ol_q (wn_some rfl rfl rfl hb2 rfl) (op_move (v:=.pointer _) rfl) rfl ?_
  refine ol_q (wn_some rfl rfl rfl hb2 rfl) (op_nilck rfl) rfl ?_
  refine ol_q (wn_some rfl rfl rfl hb2 rfl) (op_field fld_205_1 rfl) rfl ?_
  refine ol_q (wn_some rfl rfl rfl hb2 rfl) (op_ld 0 sc_202 rfl rfl rfl) rfl ?_
  refine Z2a ?_
  refine ol_q (wn_some rfl rfl rfl hb2 rfl) (op_index _ sB_202 rfl rfl (Int.toNat_of_nonneg (by omega)).symm (rds_row 4 rfl rfl) rfl (by omega)) rfl ?_
  refine ol_q (wn_some rfl rfl rfl hb2 rfl) (op_ldw (v:=.pointer (some ⟨q,0,none⟩)) sc_206 (rds_row 4 rfl rfl) rfl (by omega) (congrArg (fun q=>some (Value.pointer q)) hae)) rfl ?_
  refine ol_q (wn_some rfl rfl rfl hb2 rfl) (op_eqnil Tryz.underlying206 rfl rfl) rfl ?_
  refine Z1o ?_
  refine Zi ?_
  refine R8 ?_
  refine oq (op_index _ sB_202 rfl rfl (Int.toNat_of_nonneg (by omega)).symm (rds_row 4 rfl rfl) rfl (by omega)) ?_
  refine oq (op_ldw (v:=.pointer (some ⟨q,0,none⟩)) sc_206 (rds_row 4 rfl rfl) rfl (by omega) (congrArg (fun q=>some (Value.pointer q)) hae)) ?_
  refine R2 ?_
  refine Zg ?_
  refine Z66 ?_
  refine R4 ?_
  rw [hlv]
  exact px_rv2 rfl (rv_cella 0 ag_88 rfl rfl (voteC_ta _) (by simp [voteC_len])) (rv_tmp (v:=.bool _) rfl) (fun _ s=>Sat.tabMk hw rfl rfl ((Sat.ptrs_back (F:=VoteObj) (ps:=ps) (vs:=t.latest) (i:=who.toNat) (s.arr 7 [2,3,1,4,5,6]) hvq haq).arr 5 [1,2,3,4,0])) ⟨rfl,rfl⟩
 have hlv:t.vote who=none:=TabS.vote_none (bool_not_true hv)
 refine R3 ?_
 refine Z7 ?_
 refine oi (os_call cb_107 rfl (fun w s=>is_calls _ _ _ _ _ _ _ _  s )) ?_;rintro _ _ ⟨rfl,rfl⟩;have his:(decide (0≤who) && decide (who<(ps.length:Int)))=t.isV who:=by unfold TabS.isV;rw [hal]
 refine R2 ?_
 refine ols 10 rfl ?_ ?_
 ·intro hb3 hp3
  refine Z1b ?_
  refine Z1b ?_
  refine Z1b ?_
  refine Z1b ?_
  refine Z25 ?_
  refine Zh ?_
  refine R1 ?_
  refine oq (op_build (L:=voteC _) (vs:=[]) bB_88 rfl trivial rfl) ?_
  refine Z7 ?_
  refine Z66 ?_
  refine R5 ?_
  rw [hlv]
  exact Zbq
 intro hb3 hp3
 exact absurd hb3 (by rw [his,bool_not_true hv];decide)
theorem Counts_calls {w0 w:World} {l:List HProp} (p:Nat) (t:TabS) (who:Int) (hs:Sat w0 w ((TabObj p t)::l))  :
  Calls Tryz.prog 100 #[.pointer (some ⟨p,0,none⟩),.int .i64 who] w (Ret w0 fun r l'=>r=.bool (t.counts who)∧l'=TabObj p t::l):=by
 obtain ⟨a1,c1,a2,c2,b,ps,hw,hal,hs⟩:=hs.tabOpen
 unfold TabParts at hs;simp only [List.cons_append,List.nil_append] at hs
 have hs1:=hw.s1;have hs2:=hw.s2;have hn1:=hw.n1;have hlo:=hw.lo
 refine calls_enter Tryz.func100 rfl rfl rfl hs ?_
 refine R7 ?_
 refine oi (os_call cb_107 rfl (fun w s=>is_calls _ _ _ _ _ _ _ _  s )) ?_;rintro _ _ ⟨rfl,rfl⟩
 refine R1 ?_
 refine ols 8 rfl ?_ ?_
 ·intro hb1 hp1
  have hv:t.isV who=true:=by unfold TabS.isV;rw [←hal];exact hb1
  obtain ⟨hv1,hv2⟩:=TabS.isV_iff.1 hv
  refine Z3q ?_
  refine Z48 ?_
  refine ol_q (wn_some rfl rfl rfl hb1 rfl) (op_field fld_205_2 rfl) rfl ?_
  refine ol_q (wn_some rfl rfl rfl hb1 rfl) (op_ld 0 sc_42 rfl rfl rfl) rfl ?_
  refine Zv ?_
  refine ol_q (wn_some rfl rfl rfl hb1 rfl) (op_index _ sB_42 rfl rfl (Int.toNat_of_nonneg (by omega)).symm (rds_row 2 rfl rfl) rfl (by omega)) rfl ?_
  refine ol_q (wn_some rfl rfl rfl hb1 rfl) (op_ldw sc_4 (rds_row 2 rfl rfl) rfl (by omega) rfl) rfl ?_
  refine Z6i ?_
  refine Zq ?_
  refine R4 ?_
  exact px_ret1 rfl (v:=.bool _) (l':=TabObj p t::l) rfl (fun _ s=>Sat.tabMk hw rfl rfl s) ⟨congrArg Value.bool (by unfold TabS.counts;rw [hv];simp [List.getD_eq_getElem?_getD,show who.toNat<t.out.length by omega]),rfl⟩
 intro hb1 hp1
 have hv:t.isV who=false:=by unfold TabS.isV;rw [←hal];exact hb1
 refine Z2n ?_
 refine Z2n ?_
 refine Zf ?_
 refine R4 ?_
 exact px_ret1 rfl (v:=.bool _) (l':=TabObj p t::l) rfl (fun _ s=>Sat.tabMk hw rfl rfl s) ⟨congrArg Value.bool (by unfold TabS.counts;rw [hv];rfl),rfl⟩
theorem Marks_calls {w0 w:World} {l:List HProp} (p:Nat) (t:TabS) (hs:Sat w0 w ((TabObj p t)::l))  :
  Calls Tryz.prog 60 #[.pointer (some ⟨p,0,none⟩)] w (Ret w0 fun r l'=>r=.int .i64 t.first.length∧l'=TabObj p t::l):=by
 obtain ⟨a1,c1,a2,c2,b,ps,hw,hal,hs⟩:=hs.tabOpen
 unfold TabParts at hs;simp only [List.cons_append,List.nil_append] at hs
 have hs1:=hw.s1;have hs2:=hw.s2;have hn1:=hw.n1;have hlo:=hw.lo
 refine calls_enter Tryz.func60 rfl rfl rfl hs ?_
 refine R7 ?_
 refine oq (op_eqnil Tryz.underlying101 rfl rfl) ?_
 refine Z2o ?_
 refine oq (op_len_map 3 Tryz.underlying203 rfl rfl) ?_
 refine R4 ?_
 exact px_ret1 rfl (v:=.int _ _) (l':=TabObj p t::l) rfl (fun _ s=>Sat.tabMk hw rfl rfl s) ⟨rfl,rfl⟩
theorem mem_entry {es:Array MapEntry} {kvs:List ((Int×Int)×Root)} (hes:es.toList.map (fun e:MapEntry=>(e.key,e.val))=kvs.map (fun p=>(EK2 p.1,EVR p.2))) {e:MapEntry} (he:e∈es.toList):∃ p:(Int×Int)×Root,p∈kvs∧e.key=EK2 p.1∧e.val=EVR p.2:=by
 have h1:(e.key,e.val)∈es.toList.map (fun e:MapEntry=>(e.key,e.val)):=List.mem_map.2 ⟨e,he,rfl⟩
 rw [hes] at h1
 obtain ⟨p,hp,hq⟩:=List.mem_map.1 h1
 simp only [Prod.mk.injEq] at hq
 exact ⟨p,hp,hq.1.symm,hq.2.symm⟩
theorem push_contains {a:Array Nat} {x y:Nat}:(a.push x).contains y=true↔a.contains y=true∨y=x:=by
 simp [Array.contains_iff_mem,Array.mem_push]
theorem unseen_lt {es:Array MapEntry} {seen:Array Nat} {e:MapEntry} (he:e∈es.toList) (hs:seen.contains e.born=false) :
  (es.toList.filter fun x=>!(seen.push e.born).contains x.born).length<(es.toList.filter fun x=>!seen.contains x.born).length:=by
 have h1:(es.toList.filter fun x=>!(seen.push e.born).contains x.born)=(es.toList.filter fun x=>!seen.contains x.born).filter fun x=>decide (x.born≠e.born):=by
  rw [List.filter_filter]
  congr 1
  funext x
  rw [Bool.eq_iff_iff]
  simp [Array.mem_push,not_or,and_comm]
 rw [h1]
 have hmem:e∈es.toList.filter fun x=>!seen.contains x.born:=List.mem_filter.2 ⟨he,by rw [hs];rfl⟩
 generalize (es.toList.filter fun x=>!seen.contains x.born)=L at hmem
 clear h1 hs he
 induction L with
 | nil=>cases hmem
 | cons a r ih =>
  rcases List.mem_cons.1 hmem with h | h
  ·subst h
   rw [List.filter_cons_of_neg (by simp)]
   exact Nat.lt_succ_of_le (List.length_filter_le _ _)
  ·by_cases ha:a.born=e.born
   ·rw [List.filter_cons_of_neg (by simpa using ha)]
    exact Nat.lt_succ_of_le (List.length_filter_le _ _)
   ·rw [List.filter_cons_of_pos (by simpa using ha)]
    exact Nat.succ_lt_succ (ih h)
theorem unseen_lt2 {es es2:Array MapEntry} {seen:Array Nat} {e:MapEntry} {k:Value} (he:e∈es.toList) (hs:seen.contains e.born=false) (hin:∀ x∈es2.toList,x∈es.toList∧x.key≠k) (hsub:es2.toList.Sublist es.toList) :
  (es2.toList.filter fun x=>!(seen.push e.born).contains x.born).length<(es.toList.filter fun x=>!seen.contains x.born).length :=
 Nat.lt_of_le_of_lt (hsub.filter _).length_le (unseen_lt he hs)
theorem filter_filter_key {V:Type} (kvs:List ((Int×Int)×V)) (k:Int×Int) (g:Int×Int→Bool) (hk:g k=false):((kvs.filter fun p=>decide (p.1≠k)).filter fun p=>g p.1)=kvs.filter fun p=>g p.1:=by
 rw [List.filter_filter]
 apply List.filter_congr
 intro p _
 by_cases hp:p.1=k
 ·simp [hp,hk]
 ·simp [hp]
theorem Forget_calls {w0 w:World} {l:List HProp} (p:Nat) (t:TabS) (slot:Int) (hs:Sat w0 w ((TabObj p t)::l)) (hs0:slot≤9223372036854775807) :
  Calls Tryz.prog 79 #[.pointer (some ⟨p,0,none⟩),.int .i64 slot] w (Ret w0 fun r l'=>r=.tuple #[]∧l'=TabObj p (t.forget slot)::l):=by
 obtain ⟨a1,c1,a2,c2,b,ps,hw,hal,hs⟩:=hs.tabOpen
 unfold TabParts at hs;simp only [List.cons_append,List.nil_append] at hs
 have hs1:=hw.s1;have hs2:=hw.s2;have hn1:=hw.n1;have hlo:=hw.lo
 refine calls_enter Tryz.func79 rfl rfl rfl hs ?_
 refine R3 ?_
 refine oq (op_eqnil Tryz.underlying101 rfl rfl) ?_
 refine R1 ?_
 refine Z3f ?_
 refine ol_q (wn_some rfl rfl rfl rfl rfl) (op_lt rfl rfl) rfl ?_
 refine Z1n ?_
 refine Z8 ?_ ?_
 ·intro hb1 hp1
  refine R2 ?_
  exact px_ret0 (l':=TabObj p (t.forget slot)::l) rfl (fun _ s=>by rw [show t.forget slot=t from by unfold TabS.forget;rw [if_pos (by omega)]];exact Sat.tabMk hw rfl rfl s) ⟨rfl,rfl⟩
 intro hb1 hp1
 refine R2 ?_
 refine cd_pull3 ?_
 refine cd_mapopen ?_;intro es ck hes hbn
 refine R5 ?_
 refine oi (os_range Tryz.underlying203 rfl) ?_;rintro _ _ ⟨it1,rfl,rfl⟩
 refine R3 ?_
 refine cd_loop2 (α:=Array MapEntry×Array Nat×List ((Int×Int)×Root)) [(4,4),(16,33)] (fun x=>[]) (fun x=>Blk b (.map x.1 ck)::Blk it1 (.mapIter (some b) ck x.2.1 ck)::Blk p (.cells #[.int .i64 t.slots,.slice a1 ps.length c1,.slice a2 t.out.length c2,.map (some b)] 205 (0,0))::Row 206 encPtr (.slice a1 ps.length c1) ps::Row 4 encBool (.slice a2 t.out.length c2) t.out::PtrsO VoteObj ps t.latest::l) (fun x=>x.1.toList.map (fun e:MapEntry=>(e.key,e.val))=x.2.2.map (fun p=>(EK2 p.1,EVR p.2))∧Born x.1 ck∧(x.2.2.map (·.1)).Nodup∧(∀ p∈x.2.2,p∈t.first)∧(x.2.2.filter fun p=>decide (slot / t.slots≤p.1.2))=(t.first.filter fun p=>decide (slot / t.slots≤p.1.2))∧(∀ e∈x.1.toList,x.2.1.contains e.born=true→∀ m:Int×Int,e.key=EK2 m→slot / t.slots≤m.2)) (fun x=>(x.1.toList.filter fun e=>!x.2.1.contains e.born).length) (es,#[],t.first) ⟨hes,hbn,hw.nd,fun _ h=>h,rfl,fun e _ h=>by simp at h⟩ trivial (fun _ s=>(s.arr 6 [1,0,2,3,4,5])) ?_
 rintro ⟨es,seen,kvs⟩ ⟨hes,hbn,hnd,hsub,hfil,hsn⟩ f;dsimp only at hes hbn hnd hsub hfil hsn ⊢
 refine R1 ?_
 refine Z2 ?_
 refine Z2 ?_
 refine oi (os_next hbn rfl) ?_;rintro _ _ (⟨rfl,hall,rfl⟩ | ⟨e,he,hse,rfl,rfl⟩)
 ·
  refine R4 ?_
  refine Z23 ?_
  refine R4 ?_
  have hwf:=hw.forget slot
  have hk:kvs=t.first.filter fun p=>decide (slot / t.slots≤p.1.2):=by
   rw [←hfil]
   refine (List.filter_eq_self.2 fun q hq=>?_).symm
   have h1:(EK2 q.1,EVR q.2)∈kvs.map (fun p=>(EK2 p.1,EVR p.2)):=List.mem_map.2 ⟨q,hq,rfl⟩
   rw [←hes] at h1
   obtain ⟨e,he,hee⟩:=List.mem_map.1 h1
   simp only [Prod.mk.injEq] at hee
   exact decide_eq_true (hsn e he (hall e he) _ hee.1)
  have ef:t.forget slot={ t with first:=kvs }:=by unfold TabS.forget;rw [if_neg (by omega),hk]
  rw [ef] at hwf ⊢
  exact px_end0 (l':=TabObj p { t with first:=kvs }::l) rfl (fun _ s=>Sat.tabMk (t:={ t with first:=kvs }) hwf rfl rfl ((Sat.mapMk (EK:=EK2) (EV:=EVR) (kvs:=kvs) (s.del 1) hbn hes).arr 5 [1,2,3,0,4])) ⟨rfl,rfl⟩
 obtain ⟨⟨⟨ka,ke⟩,kr⟩,hmem,hek,hev⟩:=mem_entry hes he;obtain ⟨ek0,ev0,bo⟩:=e;dsimp only at hek hev hse ⊢;subst hek hev
 have hrg:=hw.rg _ (hsub _ hmem);dsimp only at hrg
 refine R4 ?_
 refine Z35 ?_
 refine R4 ?_
 refine oq (op_entry 0 1 ⟨EK2 (ka,ke),EVR kr,bo⟩ hbn rfl rfl rfl (by simp) he) ?_
 refine R1 ?_
 refine oi (os_alloc zB_239 rfl) ?_;rintro _ _ ⟨bx2,rfl,rfl⟩
 refine oN (os_storea (L':=[_,_]) ag_239 rfl rfl rfl (by simp [Value.oneCell']) rfl (Free.zero _) rfl) ?_;rintro _ _ ⟨rfl,rfl⟩
 refine R3 ?_
 refine Zo ?_
 refine R7 ?_
 refine rg_q (wn_none rfl) (op_quo rfl rfl (by omega) (by omega) (by omega)) rfl rfl ?_
 refine Z1z ?_
 refine Z4 ?_ ?_
 ·intro hb2 hp2
  refine cd_drawt (M:=[]) mx [] 5 (by kernel_rfl) rfl rfl ?_
  dsimp only [List.take_succ_cons,List.take_zero,List.drop_succ_cons,List.drop_zero]
  refine R4 ?_
  refine rg_q (wn_none rfl) (op_lda 0 ag_239 rfl rfl (by rfl) (by simp)) rfl rfl ?_
  refine rg_tail0 ?_
  refine Z2 ?_
  refine oN (os_delete (ka,ke) rfl Tryz.underlying203 (keyok2 keyed_mark mk2_239 _ (by unfold I64;dsimp only;omega) (by unfold I64;dsimp only;omega) (fun p hp=>by have:=hw.rg p (hsub p hp);unfold I64;omega) hnd) hbn hes rfl rfl) ?_;rintro _ _ ⟨rfl,es2,rfl,he2,hbn2,hin,hsl⟩
  refine R2 ?_
  have hlt:¬ slot / t.slots≤ke:=by omega
  refine px_loop2 (es2,seen.push bo,kvs.filter fun p=>decide (p.1≠(ka,ke))) ⟨he2,hbn2,hnd.sublist ((List.filter_sublist (l:=kvs)).map _),fun p hp=>hsub p (List.mem_filter.1 hp).1,(filter_filter_key kvs (ka,ke) (fun k=>decide (slot / t.slots≤k.2)) (by simpa using hlt)).trans hfil,fun x hx hs m hm=>(push_contains.1 hs).elim (fun h=>hsn x (hin x hx).1 h m hm) (fun h=>absurd (congrArg MapEntry.key (born_inj hbn (hin x hx).1 he h)) (hin x hx).2)⟩ (unseen_lt2 he hse hin hsl) trivial ?_ (fun _ s=>(s.del 1))
  exact Z0
 intro hb2 hp2
 refine R2 ?_
 have hge:slot / t.slots≤ke:=by omega
 refine px_loop2 (es,seen.push bo,kvs) ⟨hes,hbn,hnd,hsub,hfil,fun x hx hs m hm=>(push_contains.1 hs).elim (fun h=>hsn x hx h m hm) (fun h=>by have h1:=born_inj hbn hx he h;subst h1;have h2:=EK2_inj _ _ hm;subst h2;exact hge)⟩ (unseen_lt he hse) trivial ?_ (fun _ s=>(s.del 0))
 exact Z0
def toFirst (p:(Int×Int)×Root):First:=⟨p.1.1,p.1.2,p.2⟩
structure RTabOf (t:TabS) (N:Nat) (F:List First) (Lv:List Vote) (Hs Ou:List Bool):Prop where
 n:N=t.latest.length
 f:F=t.first.map toFirst
 l:Lv=t.latest.map fun o=>o.getD Vote.zero
 h:Hs=t.latest.map fun o=>o.isSome
 o:Ou=t.out
/-- the reference's table: all that it owns -/
def RTabObj (p:Nat) (t:TabS):HProp:=ex fun x:(Option Addr×Nat×Option Addr×Nat)×(Option Addr×Nat×Option Addr×Nat)×(Nat×List First×List Vote×List Bool×List Bool) =>
 match x with
 | ((a1,c1,a2,c2),(a3,c3,a4,c4),(N,F,Lv,Hs,Ou))=>stars (pr (t.WF∧RTabOf t N F Lv Hs Ou)::Blk p (.cells #[.int .i64 (N:Int),.int .i64 t.slots,.slice a1 F.length c1,.slice a2 Lv.length c2,.slice a3 Hs.length c3,.slice a4 Ou.length c4] 262 (0,0))::Row 376 encFirst (.slice a1 F.length c1) F::Row 88 encVote (.slice a2 Lv.length c2) Lv::Row 4 encBool (.slice a3 Hs.length c3) Hs::Row 4 encBool (.slice a4 Ou.length c4) Ou::[])
theorem Sat.rtabMk {w0 w:World} {l:List HProp} {p:Nat} {t:TabS} {a1 a2 a3 a4:Option Addr} {c1 c2 c3 c4 N m1 m2 m3 m4:Nat} {F:List First} {Lv:List Vote} {Hs Ou:List Bool} (hw:t.WF) (hr:RTabOf t N F Lv Hs Ou)
  (h1:m1=F.length) (h2:m2=Lv.length) (h3:m3=Hs.length) (h4:m4=Ou.length) (s:Sat w0 w (Blk p (.cells #[.int .i64 (N:Int),.int .i64 t.slots,.slice a1 m1 c1,.slice a2 m2 c2,.slice a3 m3 c3,.slice a4 m4 c4] 262 (0,0))::Row 376 encFirst (.slice a1 m1 c1) F::Row 88 encVote (.slice a2 m2 c2) Lv::Row 4 encBool (.slice a3 m3 c3) Hs::Row 4 encBool (.slice a4 m4 c4) Ou::l)):Sat w0 w (RTabObj p t::l):=by
 subst h1 h2 h3 h4
 exact Sat.ex_iff.2 ⟨((a1,c1,a2,c2),(a3,c3,a4,c4),(N,F,Lv,Hs,Ou)),Sat.stars_iff.2 (Sat.pr_iff.2 ⟨⟨hw,hr⟩,s⟩)⟩
theorem RNew_calls {w0 w:World} {l:List HProp} (n sl:Int) (hs:Sat w0 w (l))  :
  Calls Tryz.prog 109 #[.int .i64 n,.int .i64 sl] w (Ret w0 fun v l'=>(v=.tuple #[.pointer none,.bool false]∧l'=l∧(n<1∨64<n∨sl<1∨32<sl))∨∃ p,v=.tuple #[.pointer (some ⟨p,0,none⟩),.bool true]∧(1≤n∧n≤64∧1≤sl∧sl≤32)∧l'=RTabObj p (TabS.new n.toNat sl)::l):=by
 refine calls_enter Tryz.func109 rfl rfl rfl hs ?_
 refine R10 ?_
 refine ols 8 rfl ?_ ?_
 ·intro hb1 hp1
  refine Z1e ?_
  refine Zq ?_
  refine Z1r ?_
  refine Zr ?_
  refine Z1r ?_
  refine Z44 ?_
  refine R7 ?_
  exact Z8p
 intro hb1 hp1
 refine Zv ?_
 refine Z3r ?_
 refine Zf ?_
 refine R1 ?_
 refine ols 12 rfl ?_ ?_
 ·intro hb2 hp2
  refine Zx ?_
  refine Z1w ?_
  refine Z1r ?_
  refine Z44 ?_
  refine R7 ?_
  exact Z8p
 intro hb2 hp2
 refine Z2a ?_
 refine Z49 ?_
 refine Z1o ?_
 refine R1 ?_
 refine ols 16 rfl ?_ ?_
 ·intro hb3 hp3
  refine Z1b ?_
  refine Z25 ?_
  refine Zh ?_
  refine R7 ?_
  exact Z8p
 intro hb3 hp3
 refine Z2h ?_
 refine Z3g ?_
 refine Z1v ?_
 refine Z8 ?_ ?_
 ·intro hb4 hp4
  refine R7 ?_
  exact Z8p
 intro hb4 hp4
 refine R3 ?_
 refine cd_drawe (M:=[]) mx [3,5,7,9] ?_
 refine Z4x ?_
 refine Z4s ?_
 refine e_q 2 rfl (wn_none rfl) (op_move (v:=.int _ _) rfl) ?_
 refine e_q 4 rfl (wn_none rfl) (op_move (v:=.int _ _) rfl) ?_
 refine e_q 6 rfl (wn_none rfl) (op_move (v:=.int _ _) rfl) ?_
 refine et_3 (i1:=3) (i2:=5) (i3:=7) (by kernel_rfl) ?_ ?_ ?_
 ·
  refine ei_i rfl rfl (wn_none rfl) (os_make (E:=encVote) (_) (Vote.zero) sB_85 zv_88 rfl rfl rfl (Int.toNat_of_nonneg (by omega)).symm (by omega) (by unfold maxLen;omega)) rfl ?_;rintro _ _ ⟨ao1,rfl,rfl⟩;refine ⟨[_],rfl,?_⟩
  refine et_2 (i1:=5) (i2:=7) (by kernel_rfl) ?_ ?_
  ·
   refine Z61 ?_;intro ao2
   refine Zc ?_
   refine Z65 ?_;intro ao3
   refine Z67 ?_
   refine Z15 ?_
   refine Z2x ?_;intro bx1
   refine Z68 ?_
   refine Z69 ?_
   refine Z9 ?_
   obtain ⟨k,rfl⟩:∃ k:Nat,n=k:=⟨n.toNat,by omega⟩
   refine px_ret2 rfl (v1:=.pointer _) (v2:=.bool _) (l':=RTabObj _ (TabS.new k sl)::l) rfl rfl (fun _ s=>?_) (.inr ⟨_,rfl,by omega,rfl⟩)
   have s2:=(s.arr 4 [0,3,2,1])
   exact Z6a
  refine Z61 ?_;intro ao4
  refine Z2e ?_
  refine Z65 ?_;intro ao5
  refine Z67 ?_
  refine Z15 ?_
  refine Z2x ?_;intro bx2
  refine Z68 ?_
  refine Z69 ?_
  refine Z9 ?_
  obtain ⟨k,rfl⟩:∃ k:Nat,n=k:=⟨n.toNat,by omega⟩
  refine px_ret2 rfl (v1:=.pointer _) (v2:=.bool _) (l':=RTabObj _ (TabS.new k sl)::l) rfl rfl (fun _ s=>?_) (.inr ⟨_,rfl,by omega,rfl⟩)
  have s2:=(s.arr 4 [0,3,1,2])
  exact Z6a
 ·
  refine Za1 ?_;intro ao6
  refine et_2 (i1:=3) (i2:=7) (by kernel_rfl) ?_ ?_
  ·
   refine Zbr ?_;intro ao7
   refine Zc ?_
   refine Z65 ?_;intro ao8
   refine Z67 ?_
   refine Z15 ?_
   refine Z2x ?_;intro bx3
   refine Z68 ?_
   refine Z69 ?_
   refine Z9 ?_
   obtain ⟨k,rfl⟩:∃ k:Nat,n=k:=⟨n.toNat,by omega⟩
   refine px_ret2 rfl (v1:=.pointer _) (v2:=.bool _) (l':=RTabObj _ (TabS.new k sl)::l) rfl rfl (fun _ s=>?_) (.inr ⟨_,rfl,by omega,rfl⟩)
   have s2:=(s.arr 4 [0,2,3,1])
   exact Z6a
  refine Z61 ?_;intro ao9
  refine Z3t ?_
  refine Zbs ?_;intro ao10
  refine Z67 ?_
  refine Z15 ?_
  refine Z2x ?_;intro bx4
  refine Z68 ?_
  refine Z69 ?_
  refine Z9 ?_
  obtain ⟨k,rfl⟩:∃ k:Nat,n=k:=⟨n.toNat,by omega⟩
  refine px_ret2 rfl (v1:=.pointer _) (v2:=.bool _) (l':=RTabObj _ (TabS.new k sl)::l) rfl rfl (fun _ s=>?_) (.inr ⟨_,rfl,by omega,rfl⟩)
  have s2:=(s.arr 4 [0,1,3,2])
  exact Z6a
 refine Za1 ?_;intro ao11
 refine et_2 (i1:=3) (i2:=5) (by kernel_rfl) ?_ ?_
 ·
  refine Zbr ?_;intro ao12
  refine Z2e ?_
  refine Z65 ?_;intro ao13
  refine Z67 ?_
  refine Z15 ?_
  refine Z2x ?_;intro bx5
  refine Z68 ?_
  refine Z69 ?_
  refine Z9 ?_
  obtain ⟨k,rfl⟩:∃ k:Nat,n=k:=⟨n.toNat,by omega⟩
  refine px_ret2 rfl (v1:=.pointer _) (v2:=.bool _) (l':=RTabObj _ (TabS.new k sl)::l) rfl rfl (fun _ s=>?_) (.inr ⟨_,rfl,by omega,rfl⟩)
  have s2:=(s.arr 4 [0,2,1,3])
  exact Z6a
 refine Z61 ?_;intro ao14
 refine Z3t ?_
 refine Zbs ?_;intro ao15
 refine Z67 ?_
 refine Z15 ?_
 refine Z2x ?_;intro bx6
 refine Z68 ?_
 refine Z69 ?_
 refine Z9 ?_
 obtain ⟨k,rfl⟩:∃ k:Nat,n=k:=⟨n.toNat,by omega⟩
 refine px_ret2 rfl (v1:=.pointer _) (v2:=.bool _) (l':=RTabObj _ (TabS.new k sl)::l) rfl rfl (fun _ s=>?_) (.inr ⟨_,rfl,by omega,rfl⟩)
 have s2:=s
 exact Z6a
def fkeep (slot k:Int) (f:First):Bool:=decide (slot<0) || decide (slot / k≤f.epoch)
def fsel (F:List First) (slot k:Int) (i:Nat):List First:=(F.take i).filter (fkeep slot k)
theorem RTotal_calls {w0 w:World} {l:List HProp} (ao:Option Addr) (c:Nat) (xs:List Val) (hs:Sat w0 w (l)) (hr:Rds w0 l encVal ao xs) (hxl:xs.length≤1000000) (hq:∀ y∈xs,I64 y.stake∧y.key.length≤maxLen) :
  Calls Tryz.prog 110 #[.slice ao xs.length c] w (Ret w0 fun v l'=>v=.tuple #[.int .i64 ((totF 0 xs).getD 0),.bool (totF 0 xs).isSome]∧l'=l):=by
 refine calls_enter Tryz.func110 rfl rfl rfl hs ?_
 refine R12 ?_
 refine Z2d ?_
 refine R4 ?_
 refine cd_loop2 (α:=Nat×Nat) [(2,4),(6,6),(9,35)] (fun x=>[(4,.int .u64 (x.2:Int)),(9,.int .i64 (x.1:Int))]) (fun _=>_) (fun x=>x.1≤xs.length∧x.2<4611686018427387904∧totF 0 xs=totF (x.2:Int) (xs.drop x.1)) (fun x=>xs.length-x.1) (0,0) ⟨Nat.zero_le _,by decide,rfl⟩ ⟨rfl,rfl,trivial⟩ (fun _ s=>s) ?_
 rintro ⟨i,s⟩ ⟨hi,hs1,heq⟩ f;(try dsimp only at hi hs1 heq ⊢)
 refine Z3 ?_ ?_
 ·intro hb1 hp1
  refine R5 ?_
  refine oq (op_index _ sB_22 rfl rfl rfl hr rfl (by omega)) ?_
  refine oq (op_ldaw (L:=valC _) ag_64 hr rfl (by omega) rfl (valC_ta _)) ?_
  refine Z5h ?_;intro bx1
  refine Z5i ?_
  refine R8 ?_
  refine ols 16 rfl ?_ ?_
  ·intro hb2 hp2
   have hvo:¬ valOK xs[i]=true:=fun h=>by have h4:=of_decide_eq_true h;have h3:=of_decide_eq_true hb2;omega
   refine Zx ?_
   refine Zx ?_
   refine Z1w ?_
   refine Z3c ?_
   refine Z44 ?_
   refine R12 ?_
   have e:totF 0 xs=none:=by rw [heq,totF_drop (by omega),if_neg (fun h=>hvo h.1)]
   rw [e]
   exact Z5j
  intro hb2 hp2
  refine ol_q (wn_some rfl rfl rfl hb2 rfl) (op_field fld_64_1 rfl) rfl ?_
  refine ol_q (wn_some rfl rfl rfl hb2 rfl) (op_ld 0 sc_9 rfl rfl (valC_a1 _)) rfl ?_
  refine Z94 ?_
  refine Z49 ?_
  refine Z1o ?_
  refine R1 ?_
  refine ols 22 rfl ?_ ?_
  ·intro hb3 hp3
   have hvo:¬ valOK xs[i]=true:=fun h=>by have h4:=of_decide_eq_true h;have h3:=of_decide_eq_true hb3;omega
   refine Z1b ?_
   refine Z1b ?_
   refine Z25 ?_
   refine Zh ?_
   refine R12 ?_
   have e:totF 0 xs=none:=by rw [heq,totF_drop (by omega),if_neg (fun h=>hvo h.1)]
   rw [e]
   exact Z5j
  intro hb3 hp3
  refine ol_q (wn_some rfl rfl rfl hb3 rfl) (op_field fld_64_1 rfl) rfl ?_
  refine ol_q (wn_some rfl rfl rfl hb3 rfl) (op_ld 0 sc_9 rfl rfl (valC_a1 _)) rfl ?_
  refine ol_q (wn_some rfl rfl rfl hb3 rfl) (op_len_string Tryz.underlying9 rfl) rfl ?_
  refine Z3g ?_
  refine Z1v ?_
  refine Z8 ?_ ?_
  ·intro hb4 hp4
   have hvo:¬ valOK xs[i]=true:=fun h=>by have h4:=of_decide_eq_true h;have h3:=of_decide_eq_true hb4;omega
   refine R12 ?_
   have e:totF 0 xs=none:=by rw [heq,totF_drop (by omega),if_neg (fun h=>hvo h.1)]
   rw [e]
   exact Z5j
  intro hb4 hp4
  have hvk:valOK xs[i]=true:=decide_eq_true (by omega)
  have hi64:=(hq xs[i] (List.getElem_mem _)).1
  unfold I64 at hi64
  have hu:u64N xs[i].stake=xs[i].stake.toNat:=u64N_nat (by omega) (by omega)
  refine R6 ?_
  refine Z3j ?_
  refine oq (op_addn rfl rfl (by omega)) ?_
  refine R8 ?_
  refine Z4 ?_ ?_
  ·intro hb5 hp5
   refine R11 ?_
   have e:totF 0 xs=none:=by rw [heq,totF_drop (by omega),if_neg (by omega)]
   rw [e]
   exact Z5j
  intro hb5 hp5
  refine R7 ?_
  have e0:((s+xs[i].stake.toNat:Nat):Int)=(s:Int)+xs[i].stake:=by omega
  have e1:totF 0 xs=totF ((s+xs[i].stake.toNat:Nat):Int) (xs.drop (i+1)):=by rw [heq,totF_drop (by omega),if_pos ⟨hvk,by omega⟩,e0]
  refine px_loop2 (i+1,s+xs[i].stake.toNat) ⟨by dsimp only;omega,by dsimp only;omega,e1⟩ (by (try dsimp only);omega) ⟨congrArg (Value.int .u64) (by rw [hu]<;>simp),congrArg (Value.int .i64) (by simp),trivial⟩ ?_ (fun _ s=>(s.del 0))
  exact Z0
 intro hb1 hp1
 refine R7 ?_
 refine Z6q ?_
 refine R5 ?_
 have e:totF 0 xs=some (s:Int):=by rw [heq,totF_end (by omega)]
 rw [e]
 exact px_ret2 rfl (v1:=.int _ _) (v2:=.bool _) rfl rfl (fun _ s=>s) ⟨rfl,rfl⟩
theorem Numbers_calls {w0 w:World} {l:List HProp} (ao:Option Addr) (c:Nat) (xs:List Val) (n1 n2 n3 n4 n5 n6 n7 n8 n9 n10 n11:Int) (hs:Sat w0 w (l)) (hr:Rds w0 l encVal ao xs) :
  Calls Tryz.prog 70 #[.agg (cfgC ⟨⟨ao,xs.length,c⟩,n1,n2,n3,n4,n5,n6,n7,n8,n9,n10,n11⟩).toArray] w (Ret w0 fun v l'=>∃ ro rc,v=.slice ro (numsL ⟨⟨ao,xs.length,c⟩,n1,n2,n3,n4,n5,n6,n7,n8,n9,n10,n11⟩ xs.length).length rc∧l'=Row 3 encI64 (.slice ro (numsL ⟨⟨ao,xs.length,c⟩,n1,n2,n3,n4,n5,n6,n7,n8,n9,n10,n11⟩ xs.length).length rc) (numsL ⟨⟨ao,xs.length,c⟩,n1,n2,n3,n4,n5,n6,n7,n8,n9,n10,n11⟩ xs.length)::l):=by
 refine calls_enter Tryz.func70 rfl rfl rfl hs ?_
 refine Z5 ?_;intro bx1
 refine R10 ?_
 refine Z2d ?_
 refine oq (op_min rfl rfl) ?_
 refine R20 ?_
 refine Z2d ?_
 refine oi (os_bslice (E:=encI64) [_,_,_,_,_,_,_,_,_,_,_,_,_,_,_,_,_,_,_,_,_,_,_,_] (ys:=[_,_,_,_,_,_,_,_,_,_,_,_,_,_,_,_,_,_,_,_,_,_,_,_]) sB_39 zv_3 rfl rfl rfl rfl (by decide)) ?_;rintro _ _ ⟨ao1,rfl,rfl⟩
 refine R4 ?_
 exact Z9u
theorem Good_calls {w0 w:World} {l:List HProp} (ao:Option Addr) (c:Nat) (xs:List Val) (n1 n2 n3 n4 n5 n6 n7 n8 n9 n10 n11:Int) (hs:Sat w0 w (l)) (hr:Rds w0 l encVal ao xs) (hxl:xs.length≤1000000) :
  Calls Tryz.prog 44 #[.agg (cfgC ⟨⟨ao,xs.length,c⟩,n1,n2,n3,n4,n5,n6,n7,n8,n9,n10,n11⟩).toArray] w (Ret w0 fun v l'=>v=.bool (goodC ⟨⟨ao,xs.length,c⟩,n1,n2,n3,n4,n5,n6,n7,n8,n9,n10,n11⟩ xs)∧l'=l):=by
 refine calls_enter Tryz.func44 rfl rfl rfl hs ?_
 refine Z5 ?_;intro bx1
 refine R7 ?_
 refine oi (os_call cb_91 rfl (fun w s=>Total_calls _ _ _  s (hr.cons _) (by first | omega | (simp;done) | (simp;omega)))) ?_;rintro _ _ ⟨rfl,rfl⟩
 refine R11 ?_
 refine ols 14 rfl ?_ ?_
 ·intro hb1 hp1
  refine Z2n ?_
  refine Z24 ?_
  refine Zq ?_
  refine Zh ?_
  refine R6 ?_
  exact px_ret1 rfl (v:=.bool _) rfl (fun _ s=>(s.del 0)) ⟨congrArg Value.bool (by unfold goodC numsC;simp_all),rfl⟩
 intro hb1 hp1
 refine ol_q (wn_some rfl rfl rfl hb1 rfl) (op_field fld_24_0 rfl) rfl ?_
 refine ol_q (wn_some rfl rfl rfl hb1 rfl) (op_ld 0 sc_22 rfl rfl (cfgC_a0 _)) rfl ?_
 refine ol_q (wn_some rfl rfl rfl hb1 rfl) (op_len_slice Tryz.underlying22 rfl) rfl ?_
 refine ol_i (wn_some rfl rfl rfl hb1 rfl) (os_call cb_92 rfl (fun w s=>In_calls (b:=64) _  s )) rfl ?_;rintro _ _ ⟨rfl,rfl⟩
 refine Z6i ?_
 refine Zf ?_
 refine Z8 ?_ ?_
 ·intro hb2 hp2
  refine R6 ?_
  exact px_ret1 rfl (v:=.bool _) rfl (fun _ s=>(s.del 0)) ⟨congrArg Value.bool (by unfold goodC numsC;simp_all),rfl⟩
 intro hb2 hp2
 refine R3 ?_
 refine cd_drawe (M:=[]) mx [2,9,12,15,18,21,24,27,30,33,36,37] ?_
 refine e_q 0 rfl (wn_none rfl) (op_field fld_24_1 rfl) ?_
 refine e_q 1 rfl (wn_none rfl) (op_ld 0 sc_3 rfl rfl (cfgC_a1 _)) ?_
 refine e_q 3 rfl (wn_none rfl) (op_field fld_24_2 rfl) ?_
 refine e_q 4 rfl (wn_none rfl) (op_ld 0 sc_3 rfl rfl (cfgC_a2 _)) ?_
 refine e_q 5 rfl (wn_none rfl) (op_field fld_24_0 rfl) ?_
 refine e_q 6 rfl (wn_none rfl) (op_ld 0 sc_22 rfl rfl (cfgC_a0 _)) ?_
 refine e_q 7 rfl (wn_none rfl) (op_len_slice Tryz.underlying22 rfl) ?_
 refine e_q 8 rfl (wn_none rfl) (op_min rfl rfl) ?_
 refine e_q 10 rfl (wn_none rfl) (op_field fld_24_3 rfl) ?_
 refine e_q 11 rfl (wn_none rfl) (op_ld 0 sc_3 rfl rfl (cfgC_a3 _)) ?_
 refine e_q 13 rfl (wn_none rfl) (op_field fld_24_4 rfl) ?_
 refine e_q 14 rfl (wn_none rfl) (op_ld 0 sc_3 rfl rfl (cfgC_a4 _)) ?_
 refine e_q 16 rfl (wn_none rfl) (op_field fld_24_5 rfl) ?_
 refine e_q 17 rfl (wn_none rfl) (op_ld 0 sc_3 rfl rfl (cfgC_a5 _)) ?_
 refine e_q 19 rfl (wn_none rfl) (op_field fld_24_6 rfl) ?_
 refine e_q 20 rfl (wn_none rfl) (op_ld 0 sc_3 rfl rfl (cfgC_a6 _)) ?_
 refine e_q 22 rfl (wn_none rfl) (op_field fld_24_7 rfl) ?_
 refine e_q 23 rfl (wn_none rfl) (op_ld 0 sc_3 rfl rfl (cfgC_a7 _)) ?_
 refine e_q 25 rfl (wn_none rfl) (op_field fld_24_8 rfl) ?_
 refine e_q 26 rfl (wn_none rfl) (op_ld 0 sc_3 rfl rfl (cfgC_a8 _)) ?_
 refine e_q 28 rfl (wn_none rfl) (op_field fld_24_9 rfl) ?_
 refine e_q 29 rfl (wn_none rfl) (op_ld 0 sc_3 rfl rfl (cfgC_a9 _)) ?_
 refine e_q 31 rfl (wn_none rfl) (op_field fld_24_10 rfl) ?_
 refine e_q 32 rfl (wn_none rfl) (op_ld 0 sc_3 rfl rfl (cfgC_a10 _)) ?_
 refine e_q 34 rfl (wn_none rfl) (op_field fld_24_11 rfl) ?_
 refine e_q 35 rfl (wn_none rfl) (op_ld 0 sc_3 rfl rfl (cfgC_a11 _)) ?_
 refine Z4y ?_
 refine ei_i rfl rfl (wn_none rfl) (os_call cb_92 rfl (fun w s=>In_calls (b:=32) _  s )) rfl ?_;rintro _ _ ⟨rfl,rfl⟩;refine ⟨[],rfl,?_⟩
 refine Z15 ?_
 refine ei_i rfl rfl (wn_none rfl) (os_call cb_92 rfl (fun w s=>In_calls _ _  s )) rfl ?_;rintro _ _ ⟨rfl,rfl⟩;refine ⟨[],rfl,?_⟩
 refine Zj ?_
 refine ei_i rfl rfl (wn_none rfl) (os_call cb_92 rfl (fun w s=>In_calls (b:=256) _  s )) rfl ?_;rintro _ _ ⟨rfl,rfl⟩;refine ⟨[],rfl,?_⟩
 refine Z2s ?_
 refine Z8q ?_
 refine et_1 (i:=18) (by kernel_rfl) ?_
 refine Z8q ?_
 refine et_1 (i:=21) (by kernel_rfl) ?_
 refine Z8q ?_
 refine et_1 (i:=24) (by kernel_rfl) ?_
 refine ei_i rfl rfl (wn_none rfl) (os_call cb_92 rfl (fun w s=>In_calls (b:=16) _  s )) rfl ?_;rintro _ _ ⟨rfl,rfl⟩;refine ⟨[],rfl,?_⟩
 refine et_1 (i:=27) (by kernel_rfl) ?_
 refine ei_i rfl rfl (wn_none rfl) (os_call cb_92 rfl (fun w s=>In_calls (b:=256) _  s )) rfl ?_;rintro _ _ ⟨rfl,rfl⟩;refine ⟨[],rfl,?_⟩
 refine et_1 (i:=30) (by kernel_rfl) ?_
 refine Z8q ?_
 refine et_1 (i:=33) (by kernel_rfl) ?_
 refine ei_i rfl rfl (wn_none rfl) (os_call cb_92 rfl (fun w s=>In_calls (b:=1048576) _  s )) rfl ?_;rintro _ _ ⟨rfl,rfl⟩;refine ⟨[],rfl,?_⟩
 refine et_1 (i:=36) (by kernel_rfl) ?_
 refine ei_i rfl rfl (wn_none rfl) (os_call cb_92 rfl (fun w s=>In_calls (b:=1048576) _  s )) rfl ?_;rintro _ _ ⟨rfl,rfl⟩;refine ⟨[],rfl,?_⟩
 refine et_1 (i:=37) (by kernel_rfl) ?_
 refine ei_i rfl rfl (wn_none rfl) (os_bslice (E:=encBool) [_,_,_,_,_,_,_,_,_,_,_] (ys:=[_,_,_,_,_,_,_,_,_,_,_]) sB_42 zv_4 rfl rfl rfl rfl (by decide)) rfl ?_;rintro _ _ ⟨ao1,rfl,rfl⟩;refine ⟨[_],rfl,?_⟩
 refine e_q 38 rfl (wn_none rfl) (op_assign (v:=.slice _ _ _) rfl) ?_
 refine Z4b ?_
 refine R2 ?_
 refine oi (os_call cb_93 rfl (fun w s=>Contains_calls _ _ _ _  s (rds_row 0 rfl rfl) (by first | omega | (simp;done) | (simp;omega)))) ?_;rintro _ _ ⟨rfl,rfl⟩
 refine R5 ?_
 exact px_ret1 rfl (v:=.bool _) rfl (fun _ s=>((s.del 1).del 0)) ⟨congrArg Value.bool (by rw [contains_all];unfold goodC numsC;simp_all [List.all_cons]),rfl⟩
theorem RGood_calls {w0 w:World} {l:List HProp} (ao:Option Addr) (c:Nat) (xs:List Val) (n1 n2 n3 n4 n5 n6 n7 n8 n9 n10 n11:Int) (hs:Sat w0 w (l)) (hr:Rds w0 l encVal ao xs) (hxl:xs.length≤1000000) (hq:∀ y∈xs,I64 y.stake∧y.key.length≤maxLen) :
  Calls Tryz.prog 66 #[.agg (cfgC ⟨⟨ao,xs.length,c⟩,n1,n2,n3,n4,n5,n6,n7,n8,n9,n10,n11⟩).toArray] w (Ret w0 fun v l'=>v=.bool (goodC ⟨⟨ao,xs.length,c⟩,n1,n2,n3,n4,n5,n6,n7,n8,n9,n10,n11⟩ xs)∧l'=l):=by
 have hcl:(numsC ⟨⟨ao,xs.length,c⟩,n1,n2,n3,n4,n5,n6,n7,n8,n9,n10,n11⟩ xs.length).length=12:=rfl
 have hnl:(numsL ⟨⟨ao,xs.length,c⟩,n1,n2,n3,n4,n5,n6,n7,n8,n9,n10,n11⟩ xs.length).length=24:=rfl
 refine calls_enter Tryz.func66 rfl rfl rfl hs ?_
 refine Z5 ?_;intro bx1
 refine R5 ?_
 refine oi (os_call cb_70 rfl (fun w s=>Numbers_calls _ _ _ _ _ _ _ _ _ _ _ _ _ _  s (hr.cons _))) ?_;rintro _ _ ⟨no1,nc1,rfl,rfl⟩
 refine R9 ?_
 refine cd_loop2 (α:=Nat) [(2,2),(4,4),(9,31)] (fun x=>[(4,.int .i64 ((2*x:Nat):Int))]) (fun _=>_) (fun x=>x≤12∧∀ j (h:j<(numsC ⟨⟨ao,xs.length,c⟩,n1,n2,n3,n4,n5,n6,n7,n8,n9,n10,n11⟩ xs.length).length),j<x→inR (numsC ⟨⟨ao,xs.length,c⟩,n1,n2,n3,n4,n5,n6,n7,n8,n9,n10,n11⟩ xs.length)[j]=true) (fun x=>12-x) 0 ⟨Nat.zero_le _,fun j h h2=>absurd h2 (Nat.not_lt_zero _)⟩ ⟨rfl,trivial⟩ (fun _ s=>s) ?_
 rintro i ⟨hi,hno⟩ f;(try dsimp only at hi hno ⊢)
 refine R4 ?_
 refine Z2v ?_
 refine Z6 ?_ ?_
 ·intro hb1 hp1
  refine R4 ?_
  obtain ⟨na1,na2⟩:=nums_at ⟨⟨ao,xs.length,c⟩,n1,n2,n3,n4,n5,n6,n7,n8,n9,n10,n11⟩ xs.length i (by omega) (by omega) (by omega) (by omega)
  refine R1 ?_
  refine Zo ?_
  refine R2 ?_
  refine rg_q (wn_none rfl) (op_index (2*i) sB_39 rfl rfl rfl (rds_row 0 rfl rfl) rfl (by omega)) rfl rfl ?_
  refine rg_q (wn_none rfl) (op_ldw sc_3 (rds_row 0 rfl rfl) rfl (by omega) rfl) rfl rfl ?_
  refine R2 ?_
  refine rgs 20 rfl ?_ ?_
  ·intro hb2 hp2
   have hin:inR (numsC ⟨⟨ao,xs.length,c⟩,n1,n2,n3,n4,n5,n6,n7,n8,n9,n10,n11⟩ xs.length)[i]=false:=decide_eq_false (by omega)
   refine Z2m ?_
   refine Z2m ?_
   refine Z2m ?_
   refine Z2m ?_
   refine Z2m ?_
   refine Z7r ?_
   refine Zu ?_
   refine Z35 ?_
   refine R10 ?_
   exact px_ret1 rfl (v:=.bool _) rfl (fun _ s=>((s.del 1).del 0)) ⟨congrArg Value.bool ((goodC_no (by omega) hin).symm),rfl⟩
  intro hb2 hp2
  refine rg_q (wn_some rfl rfl rfl hb2 rfl) (op_move (v:=.slice _ _ _) rfl) rfl rfl ?_
  refine rg_q (wn_some rfl rfl rfl hb2 rfl) (op_move (v:=.int _ _) rfl) rfl rfl ?_
  refine rg_q (wn_some rfl rfl rfl hb2 rfl) (op_index (2*i) sB_39 rfl rfl rfl (rds_row 0 rfl rfl) rfl (by omega)) rfl rfl ?_
  refine rg_q (wn_some rfl rfl rfl hb2 rfl) (op_ldw sc_3 (rds_row 0 rfl rfl) rfl (by omega) rfl) rfl rfl ?_
  refine rg_q (wn_some rfl rfl rfl hb2 rfl) (op_move (v:=.slice _ _ _) rfl) rfl rfl ?_
  refine rg_q (wn_some rfl rfl rfl hb2 rfl) (op_move (v:=.int _ _) rfl) rfl rfl ?_
  refine rg_q (wn_some rfl rfl rfl hb2 rfl) (op_add rfl rfl (by omega) (by omega)) rfl rfl ?_
  refine rg_q (wn_some rfl rfl rfl hb2 rfl) (op_index (2*i+1) sB_39 rfl rfl (by omega) (rds_row 0 rfl rfl) rfl (by omega)) rfl rfl ?_
  refine rg_q (wn_some rfl rfl rfl hb2 rfl) (op_ldw sc_3 (rds_row 0 rfl rfl) rfl (by omega) rfl) rfl rfl ?_
  refine rg_q (wn_some rfl rfl rfl hb2 rfl) (op_gt rfl rfl) rfl rfl ?_
  refine rg_q (wn_none rfl) (op_pick_f (v:=.bool _) rfl hb2 rfl) rfl rfl ?_
  refine Zu ?_
  refine Z4 ?_ ?_
  ·intro hb3 hp3
   have hin:inR (numsC ⟨⟨ao,xs.length,c⟩,n1,n2,n3,n4,n5,n6,n7,n8,n9,n10,n11⟩ xs.length)[i]=false:=decide_eq_false (by omega)
   refine R10 ?_
   exact px_ret1 rfl (v:=.bool _) rfl (fun _ s=>((s.del 1).del 0)) ⟨congrArg Value.bool ((goodC_no (by omega) hin).symm),rfl⟩
  intro hb3 hp3
  have hin:inR (numsC ⟨⟨ao,xs.length,c⟩,n1,n2,n3,n4,n5,n6,n7,n8,n9,n10,n11⟩ xs.length)[i]=true:=decide_eq_true (by omega)
  refine R8 ?_
  refine px_loop2 (i+1) ⟨by omega,fun j h h2=>by rcases Nat.lt_succ_iff_lt_or_eq.1 h2 with h3 | h3;exact hno j h h3;subst h3;exact hin⟩ (by (try dsimp only);omega) ⟨congrArg (Value.int .i64) (by omega),trivial⟩ ?_ (fun _ s=>s)
  exact Z0
 intro hb1 hp1
 refine R8 ?_
 refine oi (os_call cb_110 rfl (fun w s=>RTotal_calls _ _ _  s ((hr.cons _).cons _) (by first | omega | (simp;done) | (simp;omega)) (by assumption))) ?_;rintro _ _ ⟨rfl,rfl⟩
 refine R13 ?_
 exact px_ret1 rfl (v:=.bool _) rfl (fun _ s=>((s.del 1).del 0)) ⟨congrArg Value.bool ((goodC_yes fun j hj=>hno j hj (by omega)).symm),rfl⟩
theorem GBytes_calls {w0 w:World} {l:List HProp} (ao:Option Addr) (c:Nat) (xs:List Val) (n1 n2 n3 n4 n5 n6 n7 n8 n9 n10 n11:Int) (hs:Sat w0 w (l)) (hr:Rds w0 l encVal ao xs) (hxl:xs.length≤64) (hk:∀ y∈xs,y.key.length≤32) :
  Calls Tryz.prog 142 #[.agg (cfgC ⟨⟨ao,xs.length,c⟩,n1,n2,n3,n4,n5,n6,n7,n8,n9,n10,n11⟩).toArray] w (Ret w0 fun v l'=>v=.string (B (bytesC ⟨⟨ao,xs.length,c⟩,n1,n2,n3,n4,n5,n6,n7,n8,n9,n10,n11⟩ xs))∧l'=l):=by
 have h12:(nums12 ⟨⟨ao,xs.length,c⟩,n1,n2,n3,n4,n5,n6,n7,n8,n9,n10,n11⟩ xs.length).length=12:=rfl
 refine calls_enter Tryz.func142 rfl rfl rfl hs ?_
 refine Z5 ?_;intro bx1
 refine R20 ?_
 refine R13 ?_
 refine Z2d ?_
 refine oi (os_bslice (E:=encI64) [_,_,_,_,_,_,_,_,_,_,_,_] (ys:=(nums12 ⟨⟨ao,xs.length,c⟩,n1,n2,n3,n4,n5,n6,n7,n8,n9,n10,n11⟩ xs.length)) sB_39 zv_3 rfl rfl rfl rfl (by decide)) ?_;rintro _ _ ⟨ao1,rfl,rfl⟩
 refine Z33 ?_
 refine cd_loop2 (α:=Nat×Option Addr×Nat) [(3,3),(5,5),(35,43)] (fun x=>[(3,.slice x.2.1 (bytesA ((nums12 ⟨⟨ao,xs.length,c⟩,n1,n2,n3,n4,n5,n6,n7,n8,n9,n10,n11⟩ xs.length).take x.1)).length x.2.2),(35,.int .i64 (x.1:Int))]) (fun x=>Row 5 encU8 (.slice x.2.1 (bytesA ((nums12 ⟨⟨ao,xs.length,c⟩,n1,n2,n3,n4,n5,n6,n7,n8,n9,n10,n11⟩ xs.length).take x.1)).length x.2.2) (bytesA ((nums12 ⟨⟨ao,xs.length,c⟩,n1,n2,n3,n4,n5,n6,n7,n8,n9,n10,n11⟩ xs.length).take x.1))::Row 3 encI64 (.slice ao1 (nums12 ⟨⟨ao,xs.length,c⟩,n1,n2,n3,n4,n5,n6,n7,n8,n9,n10,n11⟩ xs.length).length 12) (nums12 ⟨⟨ao,xs.length,c⟩,n1,n2,n3,n4,n5,n6,n7,n8,n9,n10,n11⟩ xs.length)::Blk bx1 (.cells (cfgC ⟨⟨ao,xs.length,c⟩,n1,n2,n3,n4,n5,n6,n7,n8,n9,n10,n11⟩).toArray 24 (0,0))::l) (fun x=>x.1≤12) (fun x=>12-x.1) (0,none,0) (Nat.zero_le _) ⟨rfl,rfl,trivial⟩ (fun _ s=>Sat.rowNil s) ?_
 rintro ⟨i,vo,vc⟩ hi f;(try dsimp only at hi ⊢);have hbl:=bytesA_length ((nums12 ⟨⟨ao,xs.length,c⟩,n1,n2,n3,n4,n5,n6,n7,n8,n9,n10,n11⟩ xs.length).take i);rw [List.length_take] at hbl
 refine Z3 ?_ ?_
 ·intro hb1 hp1
  refine R5 ?_
  refine oq (op_index _ sB_39 rfl rfl rfl (rds_row 1 rfl rfl) rfl (by omega)) ?_
  refine Z74 ?_
  refine R3 ?_
  have hu4:=u64N_lt ((nums12 ⟨⟨ao,xs.length,c⟩,n1,n2,n3,n4,n5,n6,n7,n8,n9,n10,n11⟩ xs.length)[i])
  refine R3 ?_
  refine Z3j ?_
  refine oi (os_call cb_177 rfl (fun w s=>Put_calls (wd:=4) _ _ _ _  s (by omega) (by first | omega | (simp;done) | (simp;omega)))) ?_;rintro _ _ ⟨pa1,pc1,rfl,rfl⟩
  refine R8 ?_
  have e1:=bytesA_succ (nums12 ⟨⟨ao,xs.length,c⟩,n1,n2,n3,n4,n5,n6,n7,n8,n9,n10,n11⟩ xs.length) i (by omega)
  refine px_loop2 (i+1,pa1,pc1) (by dsimp only;omega) (by (try dsimp only);omega) ⟨congrArg (fun q=>Value.slice pa1 (List.length q) pc1) e1.symm,congrArg (Value.int .i64) (by simp),trivial⟩ ?_ (fun _ s=>(by rw [e1];exact s))
  exact Z0
 intro hb1 hp1
 refine R9 ?_
 refine Z2d ?_
 refine R4 ?_
 obtain rfl:i=12:=by omega
 have e0:bytesA ((nums12 ⟨⟨ao,xs.length,c⟩,n1,n2,n3,n4,n5,n6,n7,n8,n9,n10,n11⟩ xs.length).take 12)=bytesA (nums12 ⟨⟨ao,xs.length,c⟩,n1,n2,n3,n4,n5,n6,n7,n8,n9,n10,n11⟩ xs.length)++bytesV (xs.take 0):=by rw [List.take_of_length_le (by omega)];simp [bytesV]
 refine cd_loop2 (α:=Nat×Option Addr×Nat) [(3,3),(7,7),(47,64)] (fun x=>[(3,.slice x.2.1 (bytesA (nums12 ⟨⟨ao,xs.length,c⟩,n1,n2,n3,n4,n5,n6,n7,n8,n9,n10,n11⟩ xs.length)++bytesV (xs.take x.1)).length x.2.2),(47,.int .i64 (x.1:Int))]) (fun x=>Row 5 encU8 (.slice x.2.1 (bytesA (nums12 ⟨⟨ao,xs.length,c⟩,n1,n2,n3,n4,n5,n6,n7,n8,n9,n10,n11⟩ xs.length)++bytesV (xs.take x.1)).length x.2.2) (bytesA (nums12 ⟨⟨ao,xs.length,c⟩,n1,n2,n3,n4,n5,n6,n7,n8,n9,n10,n11⟩ xs.length)++bytesV (xs.take x.1))::Blk bx1 (.cells (cfgC ⟨⟨ao,xs.length,c⟩,n1,n2,n3,n4,n5,n6,n7,n8,n9,n10,n11⟩).toArray 24 (0,0))::l) (fun x=>x.1≤xs.length) (fun x=>xs.length-x.1) (0,vo,vc) (Nat.zero_le _) ⟨congrArg (fun q=>Value.slice vo (List.length q) vc) e0,rfl,trivial⟩ (fun _ s=>by rw [←e0];exact (s.del 1)) ?_
 rintro ⟨j,vo2,vc2⟩ hj f;(try dsimp only at hj ⊢);have hbl2:=bytesA_length (nums12 ⟨⟨ao,xs.length,c⟩,n1,n2,n3,n4,n5,n6,n7,n8,n9,n10,n11⟩ xs.length);have hbv:=bytesV_length (l:=xs.take j) fun y hy=>hk y (List.mem_of_mem_take hy);rw [List.length_take] at hbv;have hbs:(bytesA (nums12 ⟨⟨ao,xs.length,c⟩,n1,n2,n3,n4,n5,n6,n7,n8,n9,n10,n11⟩ xs.length)).length+(bytesV (xs.take j)).length≤3000:=by omega
 refine Z3 ?_ ?_
 ·intro hb2 hp2
  refine R5 ?_
  refine oq (op_index _ sB_22 rfl rfl rfl ((hr.cons _).cons _) rfl (by omega)) ?_
  refine oq (op_ldaw (L:=valC _) ag_64 ((hr.cons _).cons _) rfl (by omega) rfl (valC_ta _)) ?_
  refine Z5h ?_;intro bx2
  refine Z5i ?_
  refine R2 ?_
  have hu8:=u64N_lt xs[j].stake
  have hk1:=hk xs[j] (List.getElem_mem _)
  have hp8:(putB (u64N xs[j].stake) (clamp8 8)).length=8:=by rw [putB_length];rfl
  have hp1:(putB xs[j].key.length (clamp8 1)).length=1:=by rw [putB_length];rfl
  refine cd_pull1 ?_
  refine cd_drawt (M:=[_]) mx [4,9] 12 (by kernel_rfl) rfl rfl ?_
  dsimp only [List.take_succ_cons,List.take_zero,List.drop_succ_cons,List.drop_zero]
  refine R3 ?_
  refine Z9b ?_
  refine rg_i (wn_none rfl) (os_call cb_177 rfl (fun w s=>Put_calls (wd:=8) _ _ _ _  s (by omega) (by first | omega | (simp;done) | (simp;omega)))) rfl rfl ?_;rintro _ _ ⟨pa2,pc2,rfl,rfl⟩;refine ⟨[_],rfl,?_⟩
  refine R2 ?_
  refine Zcc ?_
  refine rg_i (wn_none rfl) (os_call cb_177 rfl (fun w s=>Put_calls (wd:=1) _ _ _ _  s (by omega) (by first | omega | (simp;done) | (simp;omega)))) rfl rfl ?_;rintro _ _ ⟨pa3,pc3,rfl,rfl⟩;refine ⟨[_],rfl,?_⟩
  refine R2 ?_
  refine rg_tail1 ?_
  refine oi (os_appendS rfl sB_97 Tryz.underlying9 zv_5 rfl rfl rfl (by simp;omega) (by unfold maxLen;simp;omega)) ?_;rintro _ _ ⟨ao2,ac2,rfl,rfl⟩
  refine R8 ?_
  have e2:=bytesV_succ xs j (by omega)
  have e3:bytesA (nums12 ⟨⟨ao,xs.length,c⟩,n1,n2,n3,n4,n5,n6,n7,n8,n9,n10,n11⟩ xs.length)++bytesV (xs.take (j+1))=bytesA (nums12 ⟨⟨ao,xs.length,c⟩,n1,n2,n3,n4,n5,n6,n7,n8,n9,n10,n11⟩ xs.length)++bytesV (xs.take j)++putB (u64N xs[j].stake) (clamp8 8)++putB xs[j].key.length (clamp8 1)++xs[j].key:=by rw [e2];simp only [List.append_assoc];rfl
  refine px_loop2 (j+1,ao2,ac2) (by dsimp only;omega) (by (try dsimp only);omega) ⟨congrArg (fun q=>Value.slice ao2 (List.length q) ac2) e3.symm,congrArg (Value.int .i64) (by simp),trivial⟩ ?_ (fun _ s=>(by rw [e3];exact (s.del 1)))
  exact Z0
 intro hb2 hp2
 refine R7 ?_
 refine Z2j ?_
 refine R4 ?_
 obtain rfl:j=xs.length:=by omega
 exact px_ret1 rfl (v:=.string _) rfl (fun _ s=>((s.del 1).del 0)) ⟨by unfold bytesC;rw [List.take_length],rfl⟩
theorem GRBytes_calls {w0 w:World} {l:List HProp} (ao:Option Addr) (c:Nat) (xs:List Val) (n1 n2 n3 n4 n5 n6 n7 n8 n9 n10 n11:Int) (hs:Sat w0 w (l)) (hr:Rds w0 l encVal ao xs) (hxl:xs.length≤64) (hk:∀ y∈xs,y.key.length≤32) :
  Calls Tryz.prog 25 #[.agg (cfgC ⟨⟨ao,xs.length,c⟩,n1,n2,n3,n4,n5,n6,n7,n8,n9,n10,n11⟩).toArray] w (Ret w0 fun v l'=>v=.string (B (bytesC ⟨⟨ao,xs.length,c⟩,n1,n2,n3,n4,n5,n6,n7,n8,n9,n10,n11⟩ xs))∧l'=l):=by
 have h12:(nums12 ⟨⟨ao,xs.length,c⟩,n1,n2,n3,n4,n5,n6,n7,n8,n9,n10,n11⟩ xs.length).length=12:=rfl
 have h24:(numsL ⟨⟨ao,xs.length,c⟩,n1,n2,n3,n4,n5,n6,n7,n8,n9,n10,n11⟩ xs.length).length=24:=rfl
 have hlA:=bytesA_length (nums12 ⟨⟨ao,xs.length,c⟩,n1,n2,n3,n4,n5,n6,n7,n8,n9,n10,n11⟩ xs.length)
 refine calls_enter Tryz.func25 rfl rfl rfl hs ?_
 refine Z5 ?_;intro bx1
 refine R9 ?_
 refine oi (os_call cb_70 rfl (fun w s=>Numbers_calls _ _ _ _ _ _ _ _ _ _ _ _ _ _  s (hr.cons _))) ?_;rintro _ _ ⟨no1,nc1,rfl,rfl⟩
 refine R9 ?_
 refine cd_loop2 (α:=Nat) [(3,3),(5,5),(10,23)] (fun x=>[(3,.string (B (bytesA ((nums12 ⟨⟨ao,xs.length,c⟩,n1,n2,n3,n4,n5,n6,n7,n8,n9,n10,n11⟩ xs.length).take x)))),(5,.int .i64 ((2*x:Nat):Int))]) (fun _=>_) (fun x=>x≤12) (fun x=>12-x) 0 (Nat.zero_le _) ⟨rfl,rfl,trivial⟩ (fun _ s=>s) ?_
 rintro i hi f;(try dsimp only at hi ⊢)
 refine R4 ?_
 refine Z2v ?_
 refine Z6 ?_ ?_
 ·intro hb1 hp1
  have hi12:i<12:=by omega
  have hu4:=u64N_lt (numsL ⟨⟨ao,xs.length,c⟩,n1,n2,n3,n4,n5,n6,n7,n8,n9,n10,n11⟩ xs.length)[2*i]
  have hla:=bytesA_length ((nums12 ⟨⟨ao,xs.length,c⟩,n1,n2,n3,n4,n5,n6,n7,n8,n9,n10,n11⟩ xs.length).take i)
  rw [List.length_take] at hla
  have hat:=nums12_at ⟨⟨ao,xs.length,c⟩,n1,n2,n3,n4,n5,n6,n7,n8,n9,n10,n11⟩ xs.length i hi12 (by omega) (by omega)
  refine R8 ?_
  refine oq (op_index (2*i) sB_39 rfl rfl rfl (rds_row 0 rfl rfl) rfl (by omega)) ?_
  refine Z8a ?_
  refine Z3j ?_
  refine oi (os_call cb_34 rfl (fun w s=>RPut_calls (wd:=4) _ _  s (show clamp8 4=4 from rfl) (by omega))) ?_;rintro _ l ⟨rfl,rfl⟩
  refine oq (op_sadd rfl rfl (by rw [hla,putB_length];omega)) ?_
  refine R9 ?_
  have e1:=bytesA_succ (nums12 ⟨⟨ao,xs.length,c⟩,n1,n2,n3,n4,n5,n6,n7,n8,n9,n10,n11⟩ xs.length) i (by omega)
  rw [←hat] at e1
  refine px_loop2 (i+1) (by omega) (by (try dsimp only);omega) ⟨congrArg (fun q=>Value.string (B q)) e1.symm,congrArg (Value.int .i64) (by omega),trivial⟩ ?_ (fun _ s=>s)
  exact Z0
 intro hb1 hp1
 obtain rfl:i=12:=by omega
 rw [List.take_of_length_le (show (nums12 ⟨⟨ao,xs.length,c⟩,n1,n2,n3,n4,n5,n6,n7,n8,n9,n10,n11⟩ xs.length).length≤12 from Nat.le_refl _)]
 refine R9 ?_
 refine Z2d ?_
 refine R4 ?_
 refine cd_loop2 (α:=Nat) [(3,3),(7,7),(27,46)] (fun x=>[(3,.string (B (bytesA (nums12 ⟨⟨ao,xs.length,c⟩,n1,n2,n3,n4,n5,n6,n7,n8,n9,n10,n11⟩ xs.length)++bytesV (xs.take x)))),(27,.int .i64 (x:Int))]) (fun x=>Blk bx1 (.cells (cfgC ⟨⟨ao,xs.length,c⟩,n1,n2,n3,n4,n5,n6,n7,n8,n9,n10,n11⟩).toArray 24 (0,0))::l) (fun x=>x≤xs.length) (fun x=>xs.length-x) 0 (Nat.zero_le _) ⟨congrArg (fun q=>Value.string (B q)) (by simp [bytesV]),rfl,trivial⟩ (fun _ s=>(s.del 0)) ?_
 rintro j hj f;(try dsimp only at hj ⊢)
 refine Z3 ?_ ?_
 ·intro hb2 hp2
  have hj1:j<xs.length:=by omega
  have hu8:=u64N_lt xs[j].stake
  have hk1:=hk xs[j] (List.getElem_mem _)
  have hbv:=bytesV_length (l:=xs.take j) fun y hy=>hk y (List.mem_of_mem_take hy)
  rw [List.length_take] at hbv
  have e2:=bytesV_succ xs j hj1
  refine R5 ?_
  refine oq (op_index _ sB_22 rfl rfl rfl (hr.cons _) rfl (by omega)) ?_
  refine oq (op_ldaw (L:=valC _) ag_64 (hr.cons _) rfl (by omega) rfl (valC_ta _)) ?_
  refine Z5h ?_;intro bx2
  refine Z5i ?_
  refine R2 ?_
  refine cd_draw (M:=[]) mx [4,10] (by kernel_rfl) ?_
  refine R3 ?_
  refine Z9b ?_
  refine rg_i (wn_none rfl) (os_call cb_34 rfl (fun w s=>RPut_calls (wd:=8) _ _  s (show clamp8 8=8 from rfl) (by omega))) rfl rfl ?_;rintro _ _ ⟨rfl,rfl⟩;refine ⟨[],rfl,?_⟩
  refine rg_q (wn_none rfl) (op_sadd rfl rfl (by rw [putB_length,List.length_append];omega)) rfl rfl ?_
  refine R2 ?_
  refine Zcc ?_
  refine rg_i (wn_none rfl) (os_call cb_34 rfl (fun w s=>RPut_calls (wd:=1) _ _  s (show clamp8 1=1 from rfl) (by omega))) rfl rfl ?_;rintro _ _ ⟨rfl,rfl⟩;refine ⟨[],rfl,?_⟩
  refine rg_q (wn_none rfl) (op_sadd rfl rfl (by rw [putB_length,List.length_append,List.length_append,putB_length];omega)) rfl rfl ?_
  refine R2 ?_
  refine rg_q (wn_none rfl) (op_sadd rfl rfl (by simp only [putB_length,List.length_append];omega)) rfl rfl ?_
  refine R1 ?_
  refine rg_nil0 ?_
  refine R6 ?_
  have e3:bytesA (nums12 ⟨⟨ao,xs.length,c⟩,n1,n2,n3,n4,n5,n6,n7,n8,n9,n10,n11⟩ xs.length)++bytesV (xs.take (j+1))=bytesA (nums12 ⟨⟨ao,xs.length,c⟩,n1,n2,n3,n4,n5,n6,n7,n8,n9,n10,n11⟩ xs.length)++bytesV (xs.take j)++putB (u64N xs[j].stake) 8++putB xs[j].key.length 1++xs[j].key:=by rw [e2];simp only [List.append_assoc]
  refine px_loop2 (j+1) (by omega) (by (try dsimp only);omega) ⟨congrArg (fun q=>Value.string (B q)) e3.symm,congrArg (Value.int .i64) (by simp),trivial⟩ ?_ (fun _ s=>(s.del 0))
  exact Z0
 intro hb2 hp2
 obtain rfl:j=xs.length:=by omega
 rw [List.take_length]
 refine R11 ?_
 exact px_ret1 rfl (v:=.string _) rfl (fun _ s=>(s.del 0)) ⟨rfl,rfl⟩
theorem bytesC_le {q:Cfg} {xs:List Val} (hxl:xs.length≤64) (hk:∀ y∈xs,y.key.length≤32):(bytesC q xs).length≤3000:=by
 unfold bytesC
 have h1:=bytesV_length hk
 rw [List.length_append,bytesA_length]
 have h2:(nums12 q xs.length).length=12:=rfl
 omega
theorem GRoot_calls {w0 w:World} {l:List HProp} (ao:Option Addr) (c:Nat) (xs:List Val) (n1 n2 n3 n4 n5 n6 n7 n8 n9 n10 n11:Int) (hs:Sat w0 w (l)) (hr:Rds w0 l encVal ao xs) (hxl:xs.length≤64) (hk:∀ y∈xs,y.key.length≤32) :
  Calls Tryz.prog 95 #[.agg (cfgC ⟨⟨ao,xs.length,c⟩,n1,n2,n3,n4,n5,n6,n7,n8,n9,n10,n11⟩).toArray] w (Ret w0 fun v l'=>v=.agg (rootC (shaM ([116,111,108,108,101,114]++bytesC ⟨⟨ao,xs.length,c⟩,n1,n2,n3,n4,n5,n6,n7,n8,n9,n10,n11⟩ xs))).toArray∧l'=l):=by
 have hbl:=bytesC_le (q:=⟨⟨ao,xs.length,c⟩,n1,n2,n3,n4,n5,n6,n7,n8,n9,n10,n11⟩) hxl hk
 refine calls_enter Tryz.func95 rfl rfl rfl hs ?_
 refine Z5 ?_;intro bx1
 refine Zp ?_;intro bx2
 refine R4 ?_
 refine oi (os_call cb_142 rfl (fun w s=>GBytes_calls _ _ _ _ _ _ _ _ _ _ _ _ _ _  s ((hr.cons _).cons _) (by omega) (by assumption))) ?_;rintro _ _ ⟨rfl,rfl⟩
 refine oi (os_bslice (E:=encStr) [_,_] (ys:=[[116,111,108,108,101,114],bytesC ⟨⟨ao,xs.length,c⟩,n1,n2,n3,n4,n5,n6,n7,n8,n9,n10,n11⟩ xs]) sB_37 zv_9 rfl rfl rfl rfl (by decide)) ?_;rintro _ _ ⟨ao1,rfl,rfl⟩
 refine oi (os_call cb_141 rfl (fun w s=>Of_calls _ _ _  s (rds_row 0 rfl rfl) (by rw [List.flatten_cons,List.flatten_cons,List.flatten_nil,List.append_nil,List.length_append];show 6+_<_;omega) (by show 2≤1000000;omega))) ?_;rintro _ _ ⟨rfl,rfl⟩
 refine Z2 ?_
 refine Z18 ?_
 exact Zav
theorem RRoot_calls {w0 w:World} {l:List HProp} (ao:Option Addr) (c:Nat) (xs:List Val) (n1 n2 n3 n4 n5 n6 n7 n8 n9 n10 n11:Int) (hs:Sat w0 w (l)) (hr:Rds w0 l encVal ao xs) (hxl:xs.length≤64) (hk:∀ y∈xs,y.key.length≤32) :
  Calls Tryz.prog 7 #[.agg (cfgC ⟨⟨ao,xs.length,c⟩,n1,n2,n3,n4,n5,n6,n7,n8,n9,n10,n11⟩).toArray] w (Ret w0 fun v l'=>v=.agg (rootC (shaM ([116,111,108,108,101,114]++bytesC ⟨⟨ao,xs.length,c⟩,n1,n2,n3,n4,n5,n6,n7,n8,n9,n10,n11⟩ xs))).toArray∧l'=l):=by
 have hbl:=bytesC_le (q:=⟨⟨ao,xs.length,c⟩,n1,n2,n3,n4,n5,n6,n7,n8,n9,n10,n11⟩) hxl hk
 refine calls_enter Tryz.func7 rfl rfl rfl hs ?_
 refine Z5 ?_;intro bx1
 refine Zp ?_;intro bx2
 refine R4 ?_
 refine oi (os_call cb_25 rfl (fun w s=>GRBytes_calls _ _ _ _ _ _ _ _ _ _ _ _ _ _  s ((hr.cons _).cons _) (by omega) (by assumption))) ?_;rintro _ _ ⟨rfl,rfl⟩
 refine oq (op_sadd (a:=[116,111,108,108,101,114]) rfl rfl (by show 6+_≤_;omega)) ?_
 refine oi (os_call cb_24 rfl (fun w s=>ROf_calls _  s (by rw [List.length_append];show 6+_≤_;omega))) ?_;rintro _ _ ⟨rfl,rfl⟩
 refine Z18 ?_
 exact Z9p
def stakeV (vs:List Val) (tb:TabS) (who:Int) (r:Root):Int:=match tb.vote who with | some v=>if tb.counts who=true∧v.target=r then stk vs who.toNat else 0 | none=>0
theorem stakeV_no1 {vs:List Val} {tb:TabS} {who:Int} {r:Root} (h:(tb.vote who).isSome=false):stakeV vs tb who r=0:=by
 unfold stakeV;cases hv:tb.vote who with
 | none=>rfl
 | some v=>rw [hv] at h;cases h
theorem stakeV_no2 {vs:List Val} {tb:TabS} {who:Int} {r:Root} (h:tb.counts who=false):stakeV vs tb who r=0:=by
 unfold stakeV;cases hv:tb.vote who with
 | none=>rfl
 | some v=>dsimp only;rw [if_neg (fun q=>by rw [h] at q;cases q.1)]
theorem stakeV_no3 {vs:List Val} {tb:TabS} {who:Int} {r:Root} (h:((tb.vote who).getD Vote.zero).target≠r):stakeV vs tb who r=0:=by
 unfold stakeV;cases hv:tb.vote who with
 | none=>rfl
 | some v=>dsimp only;rw [hv] at h;rw [if_neg (fun q=>h q.2)]
theorem stakeV_yes {vs:List Val} {tb:TabS} {who:Int} {r:Root} (h1:(tb.vote who).isSome=true) (h2:tb.counts who=true) (h3:((tb.vote who).getD Vote.zero).target=r):stakeV vs tb who r=stk vs who.toNat:=by
 unfold stakeV;cases hv:tb.vote who with
 | none=>rw [hv] at h1;cases h1
 | some v=>dsimp only;rw [hv] at h3;rw [if_pos ⟨h2,h3⟩]
theorem stakeV_share {vs:List Val} {tb:TabS} {w:Nat} {r:Root}:stakeV vs tb (w:Int) r=shareE vs (effT tb) r w:=by
 unfold stakeV shareE effT
 cases hv:tb.vote (w:Int) with
 | none=>dsimp only;split<;>simp
 | some v =>
  dsimp only
  by_cases hc:tb.counts (w:Int)=true
  ·have e:Option.map (fun x:Vote=>x.target) (some v)=some v.target:=rfl
   rw [if_pos hc,e]
   by_cases hr:v.target=r
   ·rw [if_pos ⟨hc,hr⟩,if_pos (by rw [hr]),Int.toNat_natCast]
   ·rw [if_neg (fun q=>hr q.2),if_neg (fun q=>hr (Option.some.inj q))]
  ·rw [if_neg (fun q=>hc q.1),if_neg hc,if_neg (by simp)]
theorem counts_rg {tb:TabS} {who:Int} (h:tb.counts who=true):0≤who∧who<tb.latest.length:=TabS.isV_iff.1 (TabS.counts_true.1 h).1
theorem add_err {t:TreeS} {r p:Root} {slot:Int} (h:(t.add r p slot).1≠0):(t.add r p slot).2=t:=by
 unfold TreeS.add at h ⊢
 repeat' split
 all_goals first | rfl | skip
 all_goals simp_all
theorem stake_calls {w0 w:World} {l:List HProp} (pb pt pw pv:Nat) (ao:Option Addr) (c:Nat) (xs:List Val) (n1 n2 n3 n4 n5 n6 n7 n8 n9 n10 n11:Int) (tb:TabS) (who:Int) (r:Root) (hs:Sat w0 w ((Blk pb (.cells #[.slice ao xs.length c,.int .i64 n1,.int .i64 n2,.int .i64 n3,.int .i64 n4,.int .i64 n5,.int .i64 n6,.int .i64 n7,.int .i64 n8,.int .i64 n9,.int .i64 n10,.int .i64 n11,.pointer (some ⟨pt,0,none⟩),.pointer (some ⟨pw,0,none⟩),.pointer (some ⟨pv,0,none⟩)] 103 (0,0)))::(TabObj pv tb)::l)) (hn:tb.latest.length=xs.length) (hr:Rds w0 l encVal ao xs) :
  Calls Tryz.prog 76 #[.pointer (some ⟨pb,0,none⟩),.int .i64 who,.agg (rootC r).toArray] w (Ret w0 fun v l'=>v=.int .i64 (stakeV xs tb who r)∧l'=Blk pb (.cells #[.slice ao xs.length c,.int .i64 n1,.int .i64 n2,.int .i64 n3,.int .i64 n4,.int .i64 n5,.int .i64 n6,.int .i64 n7,.int .i64 n8,.int .i64 n9,.int .i64 n10,.int .i64 n11,.pointer (some ⟨pt,0,none⟩),.pointer (some ⟨pw,0,none⟩),.pointer (some ⟨pv,0,none⟩)] 103 (0,0))::TabObj pv tb::l):=by
 refine calls_enter Tryz.func76 rfl rfl rfl hs ?_
 refine Z5 ?_;intro bx1
 refine R9 ?_
 refine Z7 ?_
 refine oi (os_call cb_61 rfl (fun w s=>TVote_calls _ _ _  s )) ?_;rintro _ _ ⟨rfl,rfl⟩
 refine R3 ?_
 refine Z8o ?_;intro bx2
 refine Z66 ?_
 refine R8 ?_
 refine ols 20 rfl ?_ ?_
 ·intro hb1 hp1
  have hs1:(tb.vote who).isSome=false:=by simpa using hb1
  refine Z2n ?_
  refine Z1e ?_
  refine Z24 ?_
  refine Zq ?_
  refine Z3c ?_
  refine Z2g ?_
  exact px_ret1 rfl (v:=.int _ _) rfl (fun _ s=>(((s.del 2).del 0).pull 1)) ⟨congrArg (Value.int .i64) ((stakeV_no1 hs1).symm),rfl⟩
 intro hb1 hp1
 have hs1:(tb.vote who).isSome=true:=by simpa using hb1
 refine Z3q ?_
 refine Z48 ?_
 refine ol_q (wn_some rfl rfl rfl hb1 rfl) (op_field fld_103_3 rfl) rfl ?_
 refine ol_q (wn_some rfl rfl rfl hb1 rfl) (op_ld 3 sc_101 rfl rfl rfl) rfl ?_
 refine Zv ?_
 refine Z2 ?_
 refine ol_i (wn_some rfl rfl rfl hb1 rfl) (os_call cb_100 rfl (fun w s=>Counts_calls _ _ _  s )) rfl ?_;rintro _ _ ⟨rfl,rfl⟩
 refine Z6i ?_
 refine Zf ?_
 refine R1 ?_
 refine ols 29 rfl ?_ ?_
 ·intro hb2 hp2
  have hs2:tb.counts who=false:=by simpa using hb2
  refine Zx ?_
  refine Zx ?_
  refine Z1w ?_
  refine Zh ?_
  refine R6 ?_
  exact px_ret1 rfl (v:=.int _ _) rfl (fun _ s=>(((s.del 2).del 1).pull 1)) ⟨congrArg (Value.int .i64) ((stakeV_no2 hs2).symm),rfl⟩
 intro hb2 hp2
 have hs2:tb.counts who=true:=by simpa using hb2
 have hrg:=counts_rg hs2
 refine ol_q (wn_some rfl rfl rfl hb2 rfl) (op_field fld_88_2 rfl) rfl ?_
 refine ol_q (wn_some rfl rfl rfl hb2 rfl) (op_lda (L:=rootC _) 1 ag_35 rfl rfl (voteC_af2 _) (by simp [voteC_len])) rfl ?_
 refine ol_q (wn_some rfl rfl rfl hb2 rfl) (op_lda (L:=rootC _) 2 ag_35 rfl rfl (rootC_take' _) (by simp [rootC_len])) rfl ?_
 refine ol_q (wn_some rfl rfl rfl hb2 rfl) (op_neroot _ _ rB_35 rfl rfl) rfl ?_
 refine Z1o ?_
 refine Z8 ?_ ?_
 ·intro hb3 hp3
  have hs3:((tb.vote who).getD Vote.zero).target≠r:=by simpa using hb3
  refine R6 ?_
  exact px_ret1 rfl (v:=.int _ _) rfl (fun _ s=>(((s.del 2).del 1).pull 1)) ⟨congrArg (Value.int .i64) ((stakeV_no3 hs3).symm),rfl⟩
 intro hb3 hp3
 have hs3:((tb.vote who).getD Vote.zero).target=r:=by simpa using hb3
 refine R9 ?_
 refine oq (op_index who.toNat sB_22 rfl rfl (by omega) ((((hr.cons _).cons _).cons _).cons _) rfl (by omega)) ?_
 refine oq (op_fielde fld_64_0 rfl ((((hr.cons _).cons _).cons _).cons _) (by omega)) ?_
 refine oq (op_ldf 0 sc_3 ((((hr.cons _).cons _).cons _).cons _) rfl (by omega) rfl (valC_l0 _)) ?_
 refine R4 ?_
 exact px_ret1 rfl (v:=.int _ _) rfl (fun _ s=>(((s.del 2).del 1).pull 1)) ⟨congrArg (Value.int .i64) (((stakeV_yes hs1 hs2 hs3).trans (stk_get (by omega))).symm),rfl⟩
theorem all_calls {w0 w:World} {l:List HProp} (pb pt pw pv:Nat) (ao:Option Addr) (c:Nat) (xs:List Val) (n1 n2 n3 n4 n5 n6 n7 n8 n9 n10 n11:Int) (tb:TabS) (r:Root) (hs:Sat w0 w ((Blk pb (.cells #[.slice ao xs.length c,.int .i64 n1,.int .i64 n2,.int .i64 n3,.int .i64 n4,.int .i64 n5,.int .i64 n6,.int .i64 n7,.int .i64 n8,.int .i64 n9,.int .i64 n10,.int .i64 n11,.pointer (some ⟨pt,0,none⟩),.pointer (some ⟨pw,0,none⟩),.pointer (some ⟨pv,0,none⟩)] 103 (0,0)))::(TabObj pv tb)::l)) (hn:tb.latest.length=xs.length) (hsk:StkOK xs) (hr:Rds w0 l encVal ao xs) :
  Calls Tryz.prog 191 #[.pointer (some ⟨pb,0,none⟩),.agg (rootC r).toArray] w (Ret w0 fun v l'=>v=.int .i64 (allE xs (effT tb) r)∧l'=Blk pb (.cells #[.slice ao xs.length c,.int .i64 n1,.int .i64 n2,.int .i64 n3,.int .i64 n4,.int .i64 n5,.int .i64 n6,.int .i64 n7,.int .i64 n8,.int .i64 n9,.int .i64 n10,.int .i64 n11,.pointer (some ⟨pt,0,none⟩),.pointer (some ⟨pw,0,none⟩),.pointer (some ⟨pv,0,none⟩)] 103 (0,0))::TabObj pv tb::l):=by
 have htw:=hs.drop.tabWF
 have hn1:=htw.n1
 refine calls_enter Tryz.func191 rfl rfl rfl hs ?_
 refine Z5 ?_;intro bx1
 refine R14 ?_
 refine Z2d ?_
 refine R4 ?_
 refine cd_loop2 (α:=Nat) [(5,6),(13,22)] (fun x=>[(5,.int .i64 (sg (shareE xs (effT tb) r) x)),(13,.int .i64 (x:Int))]) (fun _=>_) (fun x=>x≤xs.length) (fun x=>xs.length-x) 0 (Nat.zero_le _) ⟨rfl,rfl,trivial⟩ (fun _ s=>s) ?_
 rintro j hj f;(try dsimp only at hj ⊢)
 refine Z3 ?_ ?_
 ·intro hb1 hp1
  have hj1:j<xs.length:=by omega
  have h1:=sg_nonneg (f:=shareE xs (effT tb) r) (m:=j) (fun q _=>share_nn hsk)
  have h2:=sg_mono (f:=shareE xs (effT tb) r) (show j+1≤xs.length by omega) (fun q _=>share_nn hsk)
  have h3:=all_le (E:=effT tb) (r:=r) hsk
  have h4:=hsk.tt
  have h5:=share_nn (E:=effT tb) (r:=r) (w:=j) hsk
  have h6:=sg_succ (f:=shareE xs (effT tb) r) (m:=j)
  unfold allE at h3
  refine R14 ?_
  refine Z7 ?_
  refine Z7 ?_
  refine oi (os_call cb_76 rfl (fun w s=>stake_calls _ _ _ _ _ _ _ _ _ _ _ _ _ _ _ _ _ _ _ _ _  s (by assumption) (hr.cons _))) ?_;rintro _ _ ⟨rfl,rfl⟩;rw [stakeV_share]
  refine R9 ?_
  refine px_loop2 (j+1) (by omega) (by (try dsimp only);omega) ⟨congrArg (Value.int .i64) sg_succ.symm,congrArg (Value.int .i64) (by simp),trivial⟩ ?_ (fun _ s=>(((s.pull 1).pull 1).pull 2))
  exact Z0
 intro hb1 hp1
 have hje:j=xs.length:=by omega
 refine R11 ?_
 exact px_ret1 rfl (v:=.int _ _) rfl (fun _ s=>(s.del 0)) ⟨by rw [hje];rfl,rfl⟩
theorem wobj_add {pw pt:Nat} {t:TreeS} (hw:t.WF) {o:List Int} (h:o.length≤t.nodes.length) (r q:Root) (slot:Int):WObj pw pt t.nodes o=WObj pw pt (t.add r q slot).2.nodes o:=by
 show WRaw _ _ _ (sumL _ _) _ _=WRaw _ _ _ (sumL _ _) _ _
 rw [sumL_add hw h,bestL_add (by rw [sumL_len];exact h),leafL_add (by rw [sumL_len];exact h)]
theorem BAdd_calls {w0 w:World} {l:List HProp} (pb pt pw pv:Nat) (ao:Option Addr) (c:Nat) (xs:List Val) (n1 n2 n3 n4 n5 n6 n7 n8 n9 n10 n11:Int) (t:TreeS) (tb:TabS) (r q:Root) (slot:Int) (hs:Sat w0 w ((Blk pb (.cells #[.slice ao xs.length c,.int .i64 n1,.int .i64 n2,.int .i64 n3,.int .i64 n4,.int .i64 n5,.int .i64 n6,.int .i64 n7,.int .i64 n8,.int .i64 n9,.int .i64 n10,.int .i64 n11,.pointer (some ⟨pt,0,none⟩),.pointer (some ⟨pw,0,none⟩),.pointer (some ⟨pv,0,none⟩)] 103 (0,0)))::(TreeObj pt t)::(WObj pw pt t.nodes (ownE xs (effT tb) t.nodes))::(TabObj pv tb)::l)) (hn:tb.latest.length=xs.length) (hsk:StkOK xs) (hr:Rds w0 l encVal ao xs) :
  Calls Tryz.prog 168 #[.pointer (some ⟨pb,0,none⟩),.agg (rootC r).toArray,.agg (rootC q).toArray,.int .i64 slot] w (Ret w0 fun v l'=>v=.int .i64 (t.add r q slot).1∧l'=Blk pb (.cells #[.slice ao xs.length c,.int .i64 n1,.int .i64 n2,.int .i64 n3,.int .i64 n4,.int .i64 n5,.int .i64 n6,.int .i64 n7,.int .i64 n8,.int .i64 n9,.int .i64 n10,.int .i64 n11,.pointer (some ⟨pt,0,none⟩),.pointer (some ⟨pw,0,none⟩),.pointer (some ⟨pv,0,none⟩)] 103 (0,0))::TreeObj pt (t.add r q slot).2::WObj pw pt (t.add r q slot).2.nodes (ownE xs (effT tb) (t.add r q slot).2.nodes)::TabObj pv tb::l):=by
 have hw:=hs.drop.treeWF
 have hw2:=hw.add r q slot
 obtain ⟨_,yy,hyy⟩:=t.add_most r q slot
 have hll:t.nodes.length≤(t.add r q slot).2.nodes.length:=by rw [hyy,List.length_append];omega
 refine calls_enter Tryz.func168 rfl rfl rfl hs ?_
 refine Z1s ?_;intro bx1 bx2
 refine R6 ?_
 refine Z76 ?_
 refine Zi ?_
 refine R3 ?_
 refine cd_pull3 ?_
 refine R1 ?_
 refine cd_draw (M:=[_]) mx [7] (by kernel_rfl) ?_
 refine R7 ?_
 refine rg_i (wn_none rfl) (os_call cb_190 rfl (fun w s=>Add_calls _ _ _ _ _  s )) rfl rfl ?_;rintro _ _ ⟨rfl,rfl⟩;refine ⟨[_],rfl,?_⟩
 refine Z2y ?_
 refine Z3 ?_ ?_
 ·intro hb1 hp1
  have hne:(t.add r q slot).1≠0:=by simpa using hb1
  have hte:=add_err hne
  rw [hte]
  refine R7 ?_
  exact px_ret1 rfl (v:=.int _ _) rfl (fun _ s=>(s.arr 6 [3,0,4,5])) ⟨rfl,rfl⟩
 intro hb1 hp1
 have h0:(t.add r q slot).1=0:=by simpa using hb1
 refine R2 ?_
 rw [wobj_add hw (Nat.le_of_eq (ownE_len _ _ _)) r q slot]
 refine cd_pull4 ?_
 refine R1 ?_
 refine cd_draw (M:=[_,_]) mx [9,10] (by kernel_rfl) ?_
 refine R7 ?_
 refine rg_soft (wn_none rfl) cb_191 ci_191 (fun M=>os_back (os_pull3 (os_pull3 (os_call cb_191 rfl (fun w s=>all_calls _ _ _ _ _ _ _ _ _ _ _ _ _ _ _ _ _ _ _ _  s (by assumption) (by assumption) (((hr.tl _).cons _).cons _))))) (fun _ s=>(s.arr 4 [2,3,0,1]))) ?_
 refine rg_q (wn_none rfl) (op_build (L:=deltaC _) (vs:=[(0,.agg (rootC _).toArray),(1,.int _ _)]) bB_243 rfl ⟨⟨by simp [Value.cells,rootC_len],by rw [deltaC_len];rfl⟩,⟨rfl,by rw [deltaC_len];rfl⟩,trivial⟩ ((deltaC_b0 _ _ _).trans ((deltaC_b1 _ _ _).trans rfl))) rfl rfl ?_
 refine rg_i (wn_none rfl) (os_bslice (E:=encDelta) [_] (ys:=[_]) sB_277 zv_243 rfl rfl rfl rfl (by decide)) rfl rfl ?_;rintro _ _ ⟨ao1,rfl,rfl⟩;refine ⟨[_,_,_],rfl,?_⟩
 refine rg_i (wn_none rfl) (os_pull1 (os_pull2 (os_call cb_125 rfl (fun w s=>Apply_calls _ _ _ _ _ _ _  s (by rw [ownE_len];exact hll) (ownE_ok hsk hw) (rds_row 0 rfl rfl) (by show 1≤1000;decide))))) rfl rfl ?_;rintro _ _ ⟨rfl,rfl⟩;rw [add_ownE hsk hw h0];(try dsimp only);refine ⟨[_,_,_],rfl,?_⟩
 refine R1 ?_
 refine rg_nil_then3 ?_
 refine R1 ?_
 exact px_ret1 rfl (v:=.int _ _) rfl (fun _ s=>(s.arr 7 [5,0,1,6])) ⟨by rw [h0],rfl⟩
theorem BForget_calls {w0 w:World} {l:List HProp} (pb pt pw pv:Nat) (ao:Option Addr) (c:Nat) (xs:List Val) (n1 n2 n3 n4 n5 n6 n7 n8 n9 n10 n11:Int) (tb:TabS) (slot:Int) (hs:Sat w0 w ((Blk pb (.cells #[.slice ao xs.length c,.int .i64 n1,.int .i64 n2,.int .i64 n3,.int .i64 n4,.int .i64 n5,.int .i64 n6,.int .i64 n7,.int .i64 n8,.int .i64 n9,.int .i64 n10,.int .i64 n11,.pointer (some ⟨pt,0,none⟩),.pointer (some ⟨pw,0,none⟩),.pointer (some ⟨pv,0,none⟩)] 103 (0,0)))::(TabObj pv tb)::l)) (hs0:slot≤9223372036854775807) :
  Calls Tryz.prog 32 #[.pointer (some ⟨pb,0,none⟩),.int .i64 slot] w (Ret w0 fun v l'=>v=.tuple #[]∧l'=Blk pb (.cells #[.slice ao xs.length c,.int .i64 n1,.int .i64 n2,.int .i64 n3,.int .i64 n4,.int .i64 n5,.int .i64 n6,.int .i64 n7,.int .i64 n8,.int .i64 n9,.int .i64 n10,.int .i64 n11,.pointer (some ⟨pt,0,none⟩),.pointer (some ⟨pw,0,none⟩),.pointer (some ⟨pv,0,none⟩)] 103 (0,0))::TabObj pv (tb.forget slot)::l):=by
 refine calls_enter Tryz.func32 rfl rfl rfl hs ?_
 refine R2 ?_
 refine oq (op_nenil Tryz.underlying54 rfl rfl) ?_
 refine Zh ?_
 refine R6 ?_
 refine Z2 ?_
 refine oi (os_call cb_79 rfl (fun w s=>Forget_calls _ _ _  s (by omega))) ?_;rintro _ _ ⟨rfl,rfl⟩
 refine R1 ?_
 exact px_end0 rfl (fun _ s=>(s.pull 1)) ⟨rfl,rfl⟩
theorem BHead_calls {w0 w:World} {l:List HProp} (pb pt pw pv:Nat) (ao:Option Addr) (c:Nat) (xs:List Val) (n1 n2 n3 n4 n5 n6 n7 n8 n9 n10 n11:Int) (t:TreeS) (o:List Int) (hs:Sat w0 w ((Blk pb (.cells #[.slice ao xs.length c,.int .i64 n1,.int .i64 n2,.int .i64 n3,.int .i64 n4,.int .i64 n5,.int .i64 n6,.int .i64 n7,.int .i64 n8,.int .i64 n9,.int .i64 n10,.int .i64 n11,.pointer (some ⟨pt,0,none⟩),.pointer (some ⟨pw,0,none⟩),.pointer (some ⟨pv,0,none⟩)] 103 (0,0)))::(TreeObj pt t)::(WObj pw pt t.nodes o)::l)) (h1:o.length≤t.nodes.length) (h0:0<o.length) :
  Calls Tryz.prog 42 #[.pointer (some ⟨pb,0,none⟩)] w (Ret w0 fun v l'=>v=.agg (rootC (headW t.nodes o)).toArray∧l'=Blk pb (.cells #[.slice ao xs.length c,.int .i64 n1,.int .i64 n2,.int .i64 n3,.int .i64 n4,.int .i64 n5,.int .i64 n6,.int .i64 n7,.int .i64 n8,.int .i64 n9,.int .i64 n10,.int .i64 n11,.pointer (some ⟨pt,0,none⟩),.pointer (some ⟨pw,0,none⟩),.pointer (some ⟨pv,0,none⟩)] 103 (0,0))::TreeObj pt t::WObj pw pt t.nodes o::l):=by
 refine calls_enter Tryz.func42 rfl rfl rfl hs ?_
 refine R1 ?_
 refine Zp ?_;intro bx1
 refine R5 ?_
 refine Z76 ?_
 refine Z2o ?_
 refine Zg ?_
 refine Zg ?_
 refine oi (os_call cb_89 rfl (fun w s=>Head_calls _ _ _ _  s (by first | assumption | omega) (by first | assumption | omega))) ?_;rintro _ _ ⟨rfl,rfl⟩
 refine Z7 ?_
 refine Z18 ?_
 exact px_rv1 rfl (rv_cella 0 ag_35 rfl rfl (rootC_take' _) (by simp [rootC_len])) (l':=Blk pb (.cells #[.slice ao xs.length c,.int .i64 n1,.int .i64 n2,.int .i64 n3,.int .i64 n4,.int .i64 n5,.int .i64 n6,.int .i64 n7,.int .i64 n8,.int .i64 n9,.int .i64 n10,.int .i64 n11,.pointer (some ⟨pt,0,none⟩),.pointer (some ⟨pw,0,none⟩),.pointer (some ⟨pv,0,none⟩)] 103 (0,0))::TreeObj pt t::WObj pw pt t.nodes o::l) (fun _ s=>(s.arr 4 [3,1,2])) ⟨rfl,rfl⟩
theorem BWeight_calls {w0 w:World} {l:List HProp} (pb pt pw pv:Nat) (ao:Option Addr) (c:Nat) (xs:List Val) (n1 n2 n3 n4 n5 n6 n7 n8 n9 n10 n11:Int) (t:TreeS) (o:List Int) (r:Root) (hs:Sat w0 w ((Blk pb (.cells #[.slice ao xs.length c,.int .i64 n1,.int .i64 n2,.int .i64 n3,.int .i64 n4,.int .i64 n5,.int .i64 n6,.int .i64 n7,.int .i64 n8,.int .i64 n9,.int .i64 n10,.int .i64 n11,.pointer (some ⟨pt,0,none⟩),.pointer (some ⟨pw,0,none⟩),.pointer (some ⟨pv,0,none⟩)] 103 (0,0)))::(TreeObj pt t)::(WObj pw pt t.nodes o)::l))  :
  Calls Tryz.prog 53 #[.pointer (some ⟨pb,0,none⟩),.agg (rootC r).toArray] w (Ret w0 fun v l'=>v=.int .i64 (ofF t o.length (sumN t.nodes o) r)∧l'=Blk pb (.cells #[.slice ao xs.length c,.int .i64 n1,.int .i64 n2,.int .i64 n3,.int .i64 n4,.int .i64 n5,.int .i64 n6,.int .i64 n7,.int .i64 n8,.int .i64 n9,.int .i64 n10,.int .i64 n11,.pointer (some ⟨pt,0,none⟩),.pointer (some ⟨pw,0,none⟩),.pointer (some ⟨pv,0,none⟩)] 103 (0,0))::TreeObj pt t::WObj pw pt t.nodes o::l):=by
 refine calls_enter Tryz.func53 rfl rfl rfl hs ?_
 refine Z5 ?_;intro bx1
 refine R6 ?_
 refine Z76 ?_
 refine Zi ?_
 refine R3 ?_
 refine Zo ?_
 refine R5 ?_
 refine rg_soft (wn_none rfl) cb_104 ci_104 (fun M=>os_back (os_pull3 (os_pull3 (os_call cb_104 rfl (fun w s=>Weight_calls _ _ _ _ _  s )))) (fun _ s=>(s.arr 4 [2,3,0,1]))) ?_
 refine Z1z ?_
 refine R1 ?_
 exact px_ret1 rfl (v:=.int _ _) rfl (fun _ s=>(s.del 0)) ⟨rfl,rfl⟩
theorem BTree_calls {w0 w:World} {l:List HProp} (pb pt pw pv:Nat) (ao:Option Addr) (c:Nat) (xs:List Val) (n1 n2 n3 n4 n5 n6 n7 n8 n9 n10 n11:Int) (hs:Sat w0 w ((Blk pb (.cells #[.slice ao xs.length c,.int .i64 n1,.int .i64 n2,.int .i64 n3,.int .i64 n4,.int .i64 n5,.int .i64 n6,.int .i64 n7,.int .i64 n8,.int .i64 n9,.int .i64 n10,.int .i64 n11,.pointer (some ⟨pt,0,none⟩),.pointer (some ⟨pw,0,none⟩),.pointer (some ⟨pv,0,none⟩)] 103 (0,0)))::l))  :
  Calls Tryz.prog 15 #[.pointer (some ⟨pb,0,none⟩)] w (Ret w0 fun v l'=>v=.pointer (some ⟨pt,0,none⟩)∧l'=Blk pb (.cells #[.slice ao xs.length c,.int .i64 n1,.int .i64 n2,.int .i64 n3,.int .i64 n4,.int .i64 n5,.int .i64 n6,.int .i64 n7,.int .i64 n8,.int .i64 n9,.int .i64 n10,.int .i64 n11,.pointer (some ⟨pt,0,none⟩),.pointer (some ⟨pw,0,none⟩),.pointer (some ⟨pv,0,none⟩)] 103 (0,0))::l):=by
 refine calls_enter Tryz.func15 rfl rfl rfl hs ?_
 refine R7 ?_
 refine Z76 ?_
 refine Zi ?_
 refine R11 ?_
 exact Z6b
theorem BTable_calls {w0 w:World} {l:List HProp} (pb pt pw pv:Nat) (ao:Option Addr) (c:Nat) (xs:List Val) (n1 n2 n3 n4 n5 n6 n7 n8 n9 n10 n11:Int) (hs:Sat w0 w ((Blk pb (.cells #[.slice ao xs.length c,.int .i64 n1,.int .i64 n2,.int .i64 n3,.int .i64 n4,.int .i64 n5,.int .i64 n6,.int .i64 n7,.int .i64 n8,.int .i64 n9,.int .i64 n10,.int .i64 n11,.pointer (some ⟨pt,0,none⟩),.pointer (some ⟨pw,0,none⟩),.pointer (some ⟨pv,0,none⟩)] 103 (0,0)))::l))  :
  Calls Tryz.prog 59 #[.pointer (some ⟨pb,0,none⟩)] w (Ret w0 fun v l'=>v=.pointer (some ⟨pv,0,none⟩)∧l'=Blk pb (.cells #[.slice ao xs.length c,.int .i64 n1,.int .i64 n2,.int .i64 n3,.int .i64 n4,.int .i64 n5,.int .i64 n6,.int .i64 n7,.int .i64 n8,.int .i64 n9,.int .i64 n10,.int .i64 n11,.pointer (some ⟨pt,0,none⟩),.pointer (some ⟨pw,0,none⟩),.pointer (some ⟨pv,0,none⟩)] 103 (0,0))::l):=by
 refine calls_enter Tryz.func59 rfl rfl rfl hs ?_
 refine R7 ?_
 refine Z76 ?_
 refine Zi ?_
 refine R11 ?_
 exact Z6b
theorem TabNewOk_calls {w0 w:World} {l:List HProp} (n sl:Int) (hs:Sat w0 w l) (h:1≤n∧n≤64∧1≤sl∧sl≤32) :
  Calls Tryz.prog 97 #[.int .i64 n,.int .i64 sl] w (Ret w0 fun v l'=>∃ p,v=.pointer (some ⟨p,0,none⟩)∧l'=TabObj p (TabS.new n.toNat sl)::l) :=
 (New_calls n sl hs).mono fun e w' ⟨v,l',he,hp,hs'⟩=>by
  rcases hp with ⟨_,_,hb⟩ | ⟨p,hv,_,hl⟩
  ·omega
  exact ⟨v,l',he,⟨p,hv,hl⟩,hs'⟩
theorem RTabNewOk_calls {w0 w:World} {l:List HProp} (n sl:Int) (hs:Sat w0 w l) (h:1≤n∧n≤64∧1≤sl∧sl≤32) :
  Calls Tryz.prog 109 #[.int .i64 n,.int .i64 sl] w (Ret w0 fun v l'=>∃ p,v=.tuple #[.pointer (some ⟨p,0,none⟩),.bool true]∧l'=RTabObj p (TabS.new n.toNat sl)::l) :=
 (RNew_calls n sl hs).mono fun e w' ⟨v,l',he,hp,hs'⟩=>by
  rcases hp with ⟨_,_,hb⟩ | ⟨p,hv,_,hl⟩
  ·omega
  exact ⟨v,l',he,⟨p,hv,hl⟩,hs'⟩
theorem RTNewOk_calls {w0 w:World} {l:List HProp} (r:Root) (slot most:Int) (hs:Sat w0 w l) (h:1≤most∧most≤256∧0≤slot∧slot≤1073741824) :
  Calls Tryz.prog 108 #[.agg (rootC r).toArray,.int .i64 slot,.int .i64 most] w (Ret w0 fun v l'=>∃ p,v=.tuple #[.pointer (some ⟨p,0,none⟩),.bool true]∧l'=RTreeObj p (TreeS.new r slot most)::l) :=
 (RTNew_calls r slot most hs).mono fun e w' ⟨v,l',he,hp,hs'⟩=>by
  rcases hp with ⟨_,_,hb⟩ | ⟨p,hv,_,hl⟩
  ·omega
  exact ⟨v,l',he,⟨p,hv,hl⟩,hs'⟩
theorem BNewN_calls {w0 w:World} {l:List HProp} (ao:Option Addr) (c:Nat) (xs:List Val) (n1 n2 n3 n4 n5 n6 n7 n8 n9 n10 n11:Int) (hs:Sat w0 w (l)) (hg:goodC ⟨⟨ao,xs.length,c⟩,n1,n2,n3,n4,n5,n6,n7,n8,n9,n10,n11⟩ xs=false) (hr:Rds w0 l encVal ao xs) (hxl:xs.length≤1000000) :
  Calls Tryz.prog 45 #[.agg (cfgC ⟨⟨ao,xs.length,c⟩,n1,n2,n3,n4,n5,n6,n7,n8,n9,n10,n11⟩).toArray] w (Ret w0 fun v l'=>v=.pointer none∧l'=l):=by
 refine calls_enter Tryz.func45 rfl rfl rfl hs ?_
 refine Z5 ?_;intro bx1
 refine R6 ?_
 refine Zbt ?_
 refine Z6 ?_ ?_
 ·intro hb1 hp1
  refine R6 ?_
  exact px_ret1 rfl (v:=.pointer _) rfl (fun _ s=>(s.del 0)) ⟨rfl,rfl⟩
 intro hb1 hp1
 exact absurd hb1 (by rw [hg];simp)
theorem RBNewN_calls {w0 w:World} {l:List HProp} (ao:Option Addr) (c:Nat) (xs:List Val) (n1 n2 n3 n4 n5 n6 n7 n8 n9 n10 n11:Int) (hs:Sat w0 w (l)) (hg:goodC ⟨⟨ao,xs.length,c⟩,n1,n2,n3,n4,n5,n6,n7,n8,n9,n10,n11⟩ xs=false) (hr:Rds w0 l encVal ao xs) (hxl:xs.length≤1000000) (hq:∀ y∈xs,I64 y.stake∧y.key.length≤maxLen) :
  Calls Tryz.prog 62 #[.agg (cfgC ⟨⟨ao,xs.length,c⟩,n1,n2,n3,n4,n5,n6,n7,n8,n9,n10,n11⟩).toArray] w (Ret w0 fun v l'=>v=.tuple #[.pointer none,.bool false]∧l'=l):=by
 refine calls_enter Tryz.func62 rfl rfl rfl hs ?_
 refine Z5 ?_;intro bx1
 refine R7 ?_
 refine oi (os_call cb_66 rfl (fun w s=>RGood_calls _ _ _ _ _ _ _ _ _ _ _ _ _ _  s (hr.cons _) (by first | omega | (simp;done) | (simp;omega)) (by assumption))) ?_;rintro _ _ ⟨rfl,rfl⟩
 refine Z6 ?_ ?_
 ·intro hb1 hp1
  refine R7 ?_
  exact px_ret2 rfl (v1:=.pointer _) (v2:=.bool _) rfl rfl (fun _ s=>(s.del 0)) ⟨rfl,rfl⟩
 intro hb1 hp1
 exact absurd hb1 (by rw [hg];simp)
theorem BNewS_calls {w0 w:World} {l:List HProp} (ao:Option Addr) (c:Nat) (xs:List Val) (n1 n2 n3 n4 n5 n6 n7 n8 n9 n10 n11:Int) (hs:Sat w0 w (l)) (hg:goodC ⟨⟨ao,xs.length,c⟩,n1,n2,n3,n4,n5,n6,n7,n8,n9,n10,n11⟩ xs=true) (hr:Rds w0 l encVal ao xs) :
  Calls Tryz.prog 45 #[.agg (cfgC ⟨⟨ao,xs.length,c⟩,n1,n2,n3,n4,n5,n6,n7,n8,n9,n10,n11⟩).toArray] w (Ret w0 fun v l'=>∃ pb pt pw pv,v=.pointer (some ⟨pb,0,none⟩)∧l'=Blk pb (.cells #[.slice ao xs.length c,.int .i64 n1,.int .i64 n2,.int .i64 n3,.int .i64 n4,.int .i64 n5,.int .i64 n6,.int .i64 n7,.int .i64 n8,.int .i64 n9,.int .i64 n10,.int .i64 n11,.pointer (some ⟨pt,0,none⟩),.pointer (some ⟨pw,0,none⟩),.pointer (some ⟨pv,0,none⟩)] 103 (0,0))::TreeObj pt (TreeS.new (shaM ([116,111,108,108,101,114]++bytesC ⟨⟨ao,xs.length,c⟩,n1,n2,n3,n4,n5,n6,n7,n8,n9,n10,n11⟩ xs)) 0 n3)::WObj pw pt (TreeS.new (shaM ([116,111,108,108,101,114]++bytesC ⟨⟨ao,xs.length,c⟩,n1,n2,n3,n4,n5,n6,n7,n8,n9,n10,n11⟩ xs)) 0 n3).nodes (ownE xs (effT (TabS.new xs.length n1)) (TreeS.new (shaM ([116,111,108,108,101,114]++bytesC ⟨⟨ao,xs.length,c⟩,n1,n2,n3,n4,n5,n6,n7,n8,n9,n10,n11⟩ xs)) 0 n3).nodes)::TabObj pv (TabS.new xs.length n1)::l):=by
 have hbd:=goodC_bd hg
 (try dsimp only at hbd)
 have hxl:=hbd.2.2.1.2
 have hk:=hbd.2.2.2
 refine calls_enter Tryz.func45 rfl rfl rfl hs ?_
 refine Z5 ?_;intro bx1
 refine R6 ?_
 refine oi (os_call cb_44 rfl (fun w s=>Good_calls _ _ _ _ _ _ _ _ _ _ _ _ _ _  s (hr.cons _) (by omega))) ?_;rintro _ l ⟨rfl,rfl⟩
 refine Z6 ?_ ?_
 ·intro hb1 hp1
  exact absurd hb1 (by rw [hg];simp)
 intro hb1 hp1
 refine R3 ?_
 refine cd_draw (M:=[]) mx [4] (by kernel_rfl) ?_
 refine R1 ?_
 refine rg_soft (wn_none rfl) cb_95 ci_95 (fun M=>os_call cb_95 rfl (fun w s=>GRoot_calls _ _ _ _ _ _ _ _ _ _ _ _ _ _  s ((hr.tl _).cons _) (by omega) hk)) ?_
 refine R1 ?_
 refine rg_q (wn_none rfl) (op_ld 0 sc_3 rfl rfl (show (cfgC _).toArray[3]? = some (.int .i64 n3) from cfgC_a3 _)) rfl rfl ?_
 refine rg_i (wn_none rfl) (os_call cb_94 rfl (fun w s=>TNewOk_calls _ _ _  s (by omega))) rfl rfl ?_;rintro _ _ ⟨np3,rfl,rfl⟩;refine ⟨[_],rfl,?_⟩
 refine R5 ?_
 refine rg_nil_then1 ?_
 refine R1 ?_
 refine cd_drawt (M:=[]) mx [3,9] 11 (by kernel_rfl) rfl rfl ?_
 dsimp only [List.take_succ_cons,List.take_zero,List.drop_succ_cons,List.drop_zero]
 refine R3 ?_
 refine rg_i (wn_none rfl) (os_call cb_96 rfl (fun w s=>WNew_calls _ _  s )) rfl rfl ?_;rintro _ _ ⟨pw4,rfl,rfl⟩;refine ⟨[_],rfl,?_⟩
 refine R1 ?_
 refine rg_q (wn_none rfl) (op_ld 1 sc_22 rfl rfl (show (cfgC _).toArray[0]? = some (.slice ao xs.length c) from cfgC_a0 _)) rfl rfl ?_
 refine rg_q (wn_none rfl) (op_len_slice Tryz.underlying22 rfl) rfl rfl ?_
 refine R1 ?_
 refine rg_q (wn_none rfl) (op_ld 1 sc_3 rfl rfl (show (cfgC _).toArray[1]? = some (.int .i64 n1) from cfgC_a1 _)) rfl rfl ?_
 refine rg_i (wn_none rfl) (os_call cb_97 rfl (fun w s=>TabNewOk_calls _ _  s (by omega))) rfl rfl ?_;rintro _ _ ⟨nv5,rfl,rfl⟩;rw [Int.toNat_natCast];refine ⟨[_,_],rfl,?_⟩
 refine rg_q (wn_none rfl) (op_build (L:=[.slice ao xs.length c,.int .i64 n1,.int .i64 n2,.int .i64 n3,.int .i64 n4,.int .i64 n5,.int .i64 n6,.int .i64 n7,.int .i64 n8,.int .i64 n9,.int .i64 n10,.int .i64 n11,.pointer _,.pointer _,.pointer _]) (vs:=[(0,.agg (cfgC ⟨⟨ao,xs.length,c⟩,n1,n2,n3,n4,n5,n6,n7,n8,n9,n10,n11⟩).toArray),(1,.pointer _),(2,.pointer _),(3,.pointer _)]) bB_103 rfl ⟨⟨rfl,rfl⟩,⟨rfl,rfl⟩,⟨rfl,rfl⟩,⟨rfl,rfl⟩,trivial⟩ rfl) rfl rfl ?_
 refine rg_tail2 ?_
 refine Z19 ?_;intro bx2
 refine R4 ?_
 exact px_ret1 rfl (v:=.pointer _) (l':=_::TreeObj _ (TreeS.new (shaM ([116,111,108,108,101,114]++bytesC ⟨⟨ao,xs.length,c⟩,n1,n2,n3,n4,n5,n6,n7,n8,n9,n10,n11⟩ xs)) 0 n3)::WObj _ _ (TreeS.new (shaM ([116,111,108,108,101,114]++bytesC ⟨⟨ao,xs.length,c⟩,n1,n2,n3,n4,n5,n6,n7,n8,n9,n10,n11⟩ xs)) 0 n3).nodes (ownE xs (effT (TabS.new xs.length n1)) (TreeS.new (shaM ([116,111,108,108,101,114]++bytesC ⟨⟨ao,xs.length,c⟩,n1,n2,n3,n4,n5,n6,n7,n8,n9,n10,n11⟩ xs)) 0 n3).nodes)::TabObj _ (TabS.new xs.length n1)::l) rfl (fun _ s=>by rw [newB_own];exact (s.arr 5 [0,3,2,1])) ⟨_,_,_,_,rfl,rfl⟩
theorem RBNewS_calls {w0 w:World} {l:List HProp} (ao:Option Addr) (c:Nat) (xs:List Val) (n1 n2 n3 n4 n5 n6 n7 n8 n9 n10 n11:Int) (hs:Sat w0 w (l)) (hg:goodC ⟨⟨ao,xs.length,c⟩,n1,n2,n3,n4,n5,n6,n7,n8,n9,n10,n11⟩ xs=true) (hr:Rds w0 l encVal ao xs) (hq:∀ y∈xs,I64 y.stake∧y.key.length≤maxLen) :
  Calls Tryz.prog 62 #[.agg (cfgC ⟨⟨ao,xs.length,c⟩,n1,n2,n3,n4,n5,n6,n7,n8,n9,n10,n11⟩).toArray] w (Ret w0 fun v l'=>∃ pm pr pq,v=.tuple #[.pointer (some ⟨pm,0,none⟩),.bool true]∧l'=Blk pm (.cells #[.slice ao xs.length c,.int .i64 n1,.int .i64 n2,.int .i64 n3,.int .i64 n4,.int .i64 n5,.int .i64 n6,.int .i64 n7,.int .i64 n8,.int .i64 n9,.int .i64 n10,.int .i64 n11,.pointer (some ⟨pr,0,none⟩),.pointer (some ⟨pq,0,none⟩)] 214 (0,0))::RTreeObj pr (TreeS.new (shaM ([116,111,108,108,101,114]++bytesC ⟨⟨ao,xs.length,c⟩,n1,n2,n3,n4,n5,n6,n7,n8,n9,n10,n11⟩ xs)) 0 n3)::RTabObj pq (TabS.new xs.length n1)::l):=by
 have hbd:=goodC_bd hg
 (try dsimp only at hbd)
 have hxl:=hbd.2.2.1.2
 have hk:=hbd.2.2.2
 refine calls_enter Tryz.func62 rfl rfl rfl hs ?_
 refine Z5 ?_;intro bx1
 refine R7 ?_
 refine oi (os_call cb_66 rfl (fun w s=>RGood_calls _ _ _ _ _ _ _ _ _ _ _ _ _ _  s (hr.cons _) (by omega) (by assumption))) ?_;rintro _ l ⟨rfl,rfl⟩
 refine Z6 ?_ ?_
 ·intro hb1 hp1
  exact absurd hb1 (by rw [hg];simp)
 intro hb1 hp1
 refine R3 ?_
 refine cd_draw (M:=[]) mx [4] (by kernel_rfl) ?_
 refine R1 ?_
 refine rg_soft (wn_none rfl) cb_7 ci_7 (fun M=>os_call cb_7 rfl (fun w s=>RRoot_calls _ _ _ _ _ _ _ _ _ _ _ _ _ _  s ((hr.tl _).cons _) (by omega) hk)) ?_
 refine R1 ?_
 refine rg_q (wn_none rfl) (op_ld 0 sc_3 rfl rfl (show (cfgC _).toArray[3]? = some (.int .i64 n3) from cfgC_a3 _)) rfl rfl ?_
 refine rg_i (wn_none rfl) (os_call cb_108 rfl (fun w s=>RTNewOk_calls _ _ _  s (by omega))) rfl rfl ?_;rintro _ _ ⟨nr3,rfl,rfl⟩;refine ⟨[_],rfl,?_⟩
 refine R5 ?_
 refine rg_nil_then1 ?_
 refine R2 ?_
 refine oq (op_ld 1 sc_22 rfl rfl (show (cfgC _).toArray[0]? = some (.slice ao xs.length c) from cfgC_a0 _)) ?_
 refine Z2d ?_
 refine R1 ?_
 refine oq (op_ld 1 sc_3 rfl rfl (show (cfgC _).toArray[1]? = some (.int .i64 n1) from cfgC_a1 _)) ?_
 refine oi (os_call cb_109 rfl (fun w s=>RTabNewOk_calls _ _  s (by omega))) ?_;rintro _ _ ⟨nq4,rfl,rfl⟩;rw [Int.toNat_natCast]
 refine R11 ?_
 refine oq (op_build (L:=[.slice ao xs.length c,.int .i64 n1,.int .i64 n2,.int .i64 n3,.int .i64 n4,.int .i64 n5,.int .i64 n6,.int .i64 n7,.int .i64 n8,.int .i64 n9,.int .i64 n10,.int .i64 n11,.pointer _,.pointer _]) (vs:=[(0,.agg (cfgC ⟨⟨ao,xs.length,c⟩,n1,n2,n3,n4,n5,n6,n7,n8,n9,n10,n11⟩).toArray),(1,.pointer _),(2,.pointer _)]) bB_214 rfl ⟨⟨rfl,rfl⟩,⟨rfl,rfl⟩,⟨rfl,rfl⟩,trivial⟩ rfl) ?_
 refine Z19 ?_;intro bx2
 refine R5 ?_
 exact px_ret2 rfl (v1:=.pointer _) (v2:=.bool _) (l':=_::RTreeObj _ (TreeS.new (shaM ([116,111,108,108,101,114]++bytesC ⟨⟨ao,xs.length,c⟩,n1,n2,n3,n4,n5,n6,n7,n8,n9,n10,n11⟩ xs)) 0 n3)::RTabObj _ (TabS.new xs.length n1)::l) rfl rfl (fun _ s=>(s.arr 4 [0,2,1])) ⟨_,_,_,rfl,rfl⟩
/-- the context put in order -/
theorem cd_ord {P:Program} {w0:World} {n:Nat} {Q:Exit→Act→World→Prop} {f:Fr} {l l2:List HProp} (k:Nat) (is:List Nat) {c:Code} (h:CD P w0 n c Q f l2) (hB:arrB k is=true:=by rfl) (e:(is.map fun i=>l.getD i emp)++l.drop k=l2:=by dsimp only [List.map_cons,List.map_nil,List.getD_cons_zero,List.getD_cons_succ,List.drop_succ_cons,List.drop_zero,List.nil_append,List.cons_append]):CD P w0 n c Q f l:=fun a w r s=>h a w r (e ▸ s.arr k is hB)
def GateObj (A:GA) (C:Cfg) (xs:List Val) (now:Int) (t:TreeS) (tb:TabS) (K:List PItem):HProp:=stars (Blk A.g (.cells #[.slice A.a xs.length A.c,.int .i64 C.epoch,.int .i64 C.committee,.int .i64 C.nodes,.int .i64 C.orphans,.int .i64 C.early,.int .i64 C.quota,.int .i64 C.peers,.int .i64 C.bytes,.int .i64 C.window,.int .i64 C.ban,.int .i64 C.decay,.pointer (some ⟨A.ck,0,none⟩),.pointer (some ⟨A.bk,0,none⟩),.pointer (some ⟨A.or,0,none⟩),.pointer (some ⟨A.ea,0,none⟩),.pointer (some ⟨A.pe,0,none⟩),.int .i64 0] 82 (0,0))::Row 64 encVal (.slice A.a xs.length A.c) xs::Blk A.ck (.cells #[.int .i64 now,.int .i64 C.window] 154 (0,0))::Blk A.bk (.cells #[.slice A.a xs.length A.c,.int .i64 C.epoch,.int .i64 C.committee,.int .i64 C.nodes,.int .i64 C.orphans,.int .i64 C.early,.int .i64 C.quota,.int .i64 C.peers,.int .i64 C.bytes,.int .i64 C.window,.int .i64 C.ban,.int .i64 C.decay,.pointer (some ⟨A.tr,0,none⟩),.pointer (some ⟨A.w,0,none⟩),.pointer (some ⟨A.tb,0,none⟩)] 103 (0,0))::TreeObj A.tr t::WObj A.w A.tr (t).nodes (ownE xs (effT tb) (t).nodes)::TabObj A.tb tb::Blk A.or (.cells #[.pointer (some ⟨A.po,0,none⟩)] 111 (0,0))::PoolObj A.po C.orphans C.quota K::Blk A.ea (.cells #[.pointer (some ⟨A.pq,0,none⟩)] 163 (0,0))::PoolObj A.pq C.early C.quota []::Blk A.pe (.cells #[.map (some A.mp),.int .i64 C.peers,.int .i64 C.ban,.int .i64 C.decay,.int .i64 0] 157 (0,0))::MapO EVI EVI A.mp ([]:List (Int×Int))::[])
theorem Sat.gateOpen {w0 w:World} {l:List HProp} {A:GA} {C:Cfg} {xs:List Val} {now:Int} {t:TreeS} {tb:TabS} {K:List PItem} (s:Sat w0 w (GateObj A C xs now t tb K::l)):Sat w0 w (Blk A.g (.cells #[.slice A.a xs.length A.c,.int .i64 C.epoch,.int .i64 C.committee,.int .i64 C.nodes,.int .i64 C.orphans,.int .i64 C.early,.int .i64 C.quota,.int .i64 C.peers,.int .i64 C.bytes,.int .i64 C.window,.int .i64 C.ban,.int .i64 C.decay,.pointer (some ⟨A.ck,0,none⟩),.pointer (some ⟨A.bk,0,none⟩),.pointer (some ⟨A.or,0,none⟩),.pointer (some ⟨A.ea,0,none⟩),.pointer (some ⟨A.pe,0,none⟩),.int .i64 0] 82 (0,0))::Row 64 encVal (.slice A.a xs.length A.c) xs::Blk A.ck (.cells #[.int .i64 now,.int .i64 C.window] 154 (0,0))::Blk A.bk (.cells #[.slice A.a xs.length A.c,.int .i64 C.epoch,.int .i64 C.committee,.int .i64 C.nodes,.int .i64 C.orphans,.int .i64 C.early,.int .i64 C.quota,.int .i64 C.peers,.int .i64 C.bytes,.int .i64 C.window,.int .i64 C.ban,.int .i64 C.decay,.pointer (some ⟨A.tr,0,none⟩),.pointer (some ⟨A.w,0,none⟩),.pointer (some ⟨A.tb,0,none⟩)] 103 (0,0))::TreeObj A.tr t::WObj A.w A.tr (t).nodes (ownE xs (effT tb) (t).nodes)::TabObj A.tb tb::Blk A.or (.cells #[.pointer (some ⟨A.po,0,none⟩)] 111 (0,0))::PoolObj A.po C.orphans C.quota K::Blk A.ea (.cells #[.pointer (some ⟨A.pq,0,none⟩)] 163 (0,0))::PoolObj A.pq C.early C.quota []::Blk A.pe (.cells #[.map (some A.mp),.int .i64 C.peers,.int .i64 C.ban,.int .i64 C.decay,.int .i64 0] 157 (0,0))::MapO EVI EVI A.mp ([]:List (Int×Int))::l):=Sat.stars_iff.1 s
theorem Sat.gateMk {w0 w:World} {l:List HProp} {A:GA} {C:Cfg} {xs:List Val} {now:Int} {t:TreeS} {tb:TabS} {K:List PItem} (s:Sat w0 w (Blk A.g (.cells #[.slice A.a xs.length A.c,.int .i64 C.epoch,.int .i64 C.committee,.int .i64 C.nodes,.int .i64 C.orphans,.int .i64 C.early,.int .i64 C.quota,.int .i64 C.peers,.int .i64 C.bytes,.int .i64 C.window,.int .i64 C.ban,.int .i64 C.decay,.pointer (some ⟨A.ck,0,none⟩),.pointer (some ⟨A.bk,0,none⟩),.pointer (some ⟨A.or,0,none⟩),.pointer (some ⟨A.ea,0,none⟩),.pointer (some ⟨A.pe,0,none⟩),.int .i64 0] 82 (0,0))::Row 64 encVal (.slice A.a xs.length A.c) xs::Blk A.ck (.cells #[.int .i64 now,.int .i64 C.window] 154 (0,0))::Blk A.bk (.cells #[.slice A.a xs.length A.c,.int .i64 C.epoch,.int .i64 C.committee,.int .i64 C.nodes,.int .i64 C.orphans,.int .i64 C.early,.int .i64 C.quota,.int .i64 C.peers,.int .i64 C.bytes,.int .i64 C.window,.int .i64 C.ban,.int .i64 C.decay,.pointer (some ⟨A.tr,0,none⟩),.pointer (some ⟨A.w,0,none⟩),.pointer (some ⟨A.tb,0,none⟩)] 103 (0,0))::TreeObj A.tr t::WObj A.w A.tr (t).nodes (ownE xs (effT tb) (t).nodes)::TabObj A.tb tb::Blk A.or (.cells #[.pointer (some ⟨A.po,0,none⟩)] 111 (0,0))::PoolObj A.po C.orphans C.quota K::Blk A.ea (.cells #[.pointer (some ⟨A.pq,0,none⟩)] 163 (0,0))::PoolObj A.pq C.early C.quota []::Blk A.pe (.cells #[.map (some A.mp),.int .i64 C.peers,.int .i64 C.ban,.int .i64 C.decay,.int .i64 0] 157 (0,0))::MapO EVI EVI A.mp ([]:List (Int×Int))::l)):Sat w0 w (GateObj A C xs now t tb K::l):=Sat.stars_iff.2 s
structure GOK (C:Cfg) (xs:List Val):Prop where
 ep:1≤C.epoch∧C.epoch≤32
 cm:1≤C.committee∧C.committee≤16∧C.committee≤xs.length
 nd:1≤C.nodes∧C.nodes≤256
 orf:1≤C.orphans∧C.orphans≤64
 ea:1≤C.early∧C.early≤64
 qu:1≤C.quota∧C.quota≤64
 pe:1≤C.peers∧C.peers≤16
 by_:1≤C.bytes∧C.bytes≤256
 wi:1≤C.window∧C.window≤64
 ba:1≤C.ban∧C.ban≤1048576
 de:1≤C.decay∧C.decay≤1048576
 xl:1≤xs.length∧xs.length≤64
 ky:∀ y∈xs,y.key.length≤32
 sk:StkOK xs
theorem GFinal_calls {w0 w:World} {l:List HProp} (A:GA) (C:Cfg) (xs:List Val) (now:Int) (t:TreeS) (tb:TabS) (K:List PItem) (hs:Sat w0 w ((GateObj A C xs now t tb K)::l))  :
  Calls Tryz.prog 164 #[.pointer (some ⟨A.g,0,none⟩)] w (Ret w0 fun v l'=>v=.tuple #[.agg (rootC ((t.node 0).getD nodeNo).root).toArray,.int .i64 ((t.node 0).getD nodeNo).slot]∧l'=GateObj A C xs now t tb K::l):=by
 refine calls_enter Tryz.func164 rfl rfl rfl hs ?_
 refine R1 ?_
 refine Zp ?_;intro bx1
 refine R3 ?_
 refine cd_pull1 ?_
 refine Z1y ?_
 refine R6 ?_
 refine Zg ?_
 refine Z8r ?_
 refine ol_pull4 ?_
 refine oi (os_call cb_75 rfl (fun w s=>Node_calls (i:=0) _ _  s )) ?_;rintro _ _ ⟨rfl,rfl⟩
 refine R3 ?_
 refine Z3u ?_;intro bx2
 refine Z36 ?_
 refine R3 ?_
 refine cd_pull14 ?_
 refine R1 ?_
 refine cd_draw (M:=[_]) mx [4] (by kernel_rfl) ?_
 refine R4 ?_
 refine rg_iN (wn_none rfl) (os_storera _ ag_35 rfl rfl (Free.zero _)) rfl ?_;rintro _ _ ⟨rfl,rfl⟩;refine ⟨[_],rfl,?_⟩
 refine Z2y ?_
 refine R1 ?_
 exact px_rv2 rfl (rv_cella 0 ag_35 rfl rfl (rootC_take' _) (by simp [rootC_len])) (rv_tmp (v:=.int _ _) rfl) (fun _ s=>(Sat.gateMk (s.arr 15 [4,5,6,3,2,7,8,9,10,11,12,13,14]))) ⟨rfl,rfl⟩
theorem GAsked_calls {w0 w:World} {l:List HProp} (A:GA) (C:Cfg) (xs:List Val) (now:Int) (t:TreeS) (tb:TabS) (K:List PItem) (sl:Int) (tg:Root) (mb:Int) (bo:Option Addr) (bc:Nat) (tag:Tag) (hs:Sat w0 w ((GateObj A C xs now t tb K)::l))  :
  Calls Tryz.prog 131 #[.pointer (some ⟨A.g,0,none⟩),.agg (msgC ⟨1,sl,tg,mb,0,⟨bo,0,bc⟩,tag⟩).toArray] w (Ret w0 fun v l'=>v=.bool (decide (((t.node 0).getD nodeNo).slot<sl∧sl≤now))∧l'=GateObj A C xs now t tb K::l):=by
 refine calls_enter Tryz.func131 rfl rfl rfl hs ?_
 refine Z5 ?_;intro bx1
 refine R10 ?_
 refine Z4 ?_ ?_
 ·intro hb1 hp1
  exact absurd hb1 (by simp)
 intro hb1 hp1
 refine R4 ?_
 refine Z2 ?_
 refine oi (os_call cb_164 rfl (fun w s=>GFinal_calls _ _ _ _ _ _ _  s )) ?_;rintro _ _ ⟨rfl,rfl⟩
 refine R3 ?_
 refine Zp ?_;intro bx2
 refine Z18 ?_
 refine cd_pull1 ?_
 refine Z1y ?_
 refine R1 ?_
 refine Zo ?_
 refine R6 ?_
 refine rg_q (wn_none rfl) (op_ld 14 sc_3 rfl rfl (msgC_a1 _)) rfl rfl ?_
 refine rg_soft (wn_none rfl) cb_165 ci_165 (fun M=>os_back (os_pull2 (os_call cb_165 rfl (fun w s=>CBlock_calls _ _ _ _ _  s ))) (fun _ s=>(s.push 2))) ?_
 refine Z1z ?_
 refine R1 ?_
 exact px_ret1 rfl (v:=.bool _) rfl (fun _ s=>(Sat.gateMk ((s.del 14).del 13))) ⟨rfl,rfl⟩
theorem GKnown_calls {w0 w:World} {l:List HProp} (A:GA) (C:Cfg) (xs:List Val) (now:Int) (t:TreeS) (tb:TabS) (K:List PItem) (sl:Int) (tg:Root) (mb:Int) (bo:Option Addr) (bc:Nat) (tag:Tag) (r:Root) (hs:Sat w0 w ((GateObj A C xs now t tb K)::l)) (hp:t.place r<0) (hk:∀ y∈K,y.root≠r) (hKl:K.length≤64) :
  Calls Tryz.prog 133 #[.pointer (some ⟨A.g,0,none⟩),.agg (msgC ⟨1,sl,tg,mb,0,⟨bo,0,bc⟩,tag⟩).toArray,.agg (rootC r).toArray] w (Ret w0 fun v l'=>v=.bool false∧l'=GateObj A C xs now t tb K::l):=by
 refine calls_enter Tryz.func133 rfl rfl rfl hs ?_
 refine Z1s ?_;intro bx1 bx2
 refine R3 ?_
 refine cd_pull2 ?_
 refine Z1y ?_
 refine R6 ?_
 refine oq (op_mkif Tryz.underlying77 rfl rfl) ?_
 refine oq (op_assign (v:=_) rfl) ?_
 refine R5 ?_
 refine oq (op_ld 14 sc_3 rfl rfl (msgC_a0 _)) ?_
 refine Z6 ?_ ?_
 ·intro hb1 hp1
  refine R6 ?_
  refine oq (op_mkif Tryz.underlying59 rfl rfl) ?_
  refine oq (op_assign (v:=_) rfl) ?_
  refine R3 ?_
  refine cd_drawt (M:=[]) mx [16] 21 (by kernel_rfl) rfl rfl ?_
  dsimp only [List.take_succ_cons,List.take_zero,List.drop_succ_cons,List.drop_zero]
  refine R1 ?_
  refine rg_q (wn_none rfl) (op_ld 14 sc_3 rfl rfl (msgC_a0 _)) rfl rfl ?_
  refine R2 ?_
  refine rgs 26 rfl ?_ ?_
  ·intro hb2 hp2
   refine rg_q (wn_some rfl rfl rfl hb2 rfl) (op_move (v:=.pointer _) rfl) rfl rfl ?_
   refine rg_q (wn_some rfl rfl rfl hb2 rfl) (op_nilck rfl) rfl rfl ?_
   refine rg_q (wn_some rfl rfl rfl hb2 rfl) (op_field fld_82_2 rfl) rfl rfl ?_
   refine rg_q (wn_some rfl rfl rfl hb2 rfl) (op_field fld_80_0 rfl) rfl rfl ?_
   refine rg_q (wn_some rfl rfl rfl hb2 rfl) (op_ld 0 sc_54 rfl rfl rfl) rfl rfl ?_
   refine rg_soft (wn_some rfl rfl rfl hb2 rfl) cb_15 ci_15 (fun M=>os_back (os_pull3 (os_call cb_15 rfl (fun w s=>BTree_calls _ _ _ _ _ _ _ _ _ _ _ _ _ _ _ _ _ _  s ))) (fun _ s=>(s.push 3))) ?_
   refine rg_q (wn_some rfl rfl rfl hb2 rfl) (op_lda (L:=rootC _) 13 ag_35 rfl rfl (rootC_take' _) (by simp [rootC_len])) rfl rfl ?_
   refine rg_soft (wn_some rfl rfl rfl hb2 rfl) cb_16 ci_16 (fun M=>os_back (os_pull4 (os_call cb_16 rfl (fun w s=>Place_calls _ _ _  s ))) (fun _ s=>(s.push 4))) ?_
   refine rg_q (wn_some rfl rfl rfl hb2 rfl) (op_ge rfl rfl) rfl rfl ?_
   refine Z7r ?_
   refine R1 ?_
   refine rgs 37 rfl ?_ ?_
   ·intro hb3 hp3
    exact absurd (of_decide_eq_true hb3) (by omega)
   intro hb3 hp3
   refine rg_q (wn_some rfl rfl rfl hb3 rfl) (op_move (v:=_) rfl) rfl rfl ?_
   refine rg_i (wn_some rfl rfl rfl hb3 rfl) (os_back (os_pull8 (os_pull8 (os_invP me_59_Len Tryz.underlying59 cb_19 rfl rfl (fun w s=>OrLen_calls _ _ _ _ _  s )))) (fun _ s=>((s.push 8).push 8))) rfl rfl ?_;rintro _ _ ⟨rfl,rfl⟩;refine ⟨[],rfl,?_⟩
   refine rg_q (wn_some rfl rfl rfl hb3 rfl) (op_gt rfl rfl) rfl rfl ?_
   refine rg_q (wn_some rfl rfl rfl hb3 rfl) (op_move (v:=.bool _) rfl) rfl rfl ?_
   refine rgs 41 rfl ?_ ?_
   ·intro hb4 hp4
    refine rg_q (wn_some rfl rfl rfl hb4 rfl) (op_move (v:=_) rfl) rfl rfl ?_
    refine rg_q (wn_some rfl rfl rfl hb4 rfl) (op_lda (L:=rootC _) 13 ag_35 rfl rfl (rootC_take' _) (by simp [rootC_len])) rfl rfl ?_
    refine rg_tail0 ?_
    refine ol_pull8 ?_
    refine ol_pull8 ?_
    refine ol_i (wn_some rfl rfl rfl hb4 rfl) (os_invP me_59_Has Tryz.underlying59 cb_267 rfl rfl (fun w s=>OrHas_calls _ _ _ _ _ _  s (by omega))) rfl ?_;rintro _ _ ⟨rfl,rfl⟩
    refine ol_q (wn_some rfl rfl rfl hb3 rfl) (op_pick_t (v:=.bool _) rfl hb4 rfl) rfl ?_
    refine Z1v ?_
    refine R4 ?_
    exact px_ret1 rfl (v:=.bool _) rfl (fun _ s=>(Sat.gateMk (s.arr 15 [2,3,4,5,6,7,8,0,1,9,10,11,12]))) ⟨congrArg Value.bool (decide_eq_false fun ⟨x,h1,h2⟩=>hk x h1 h2),rfl⟩
   intro hb4 hp4
   refine rg_skip (wn_some rfl rfl rfl hb4 rfl) rfl ?_
   refine rg_skip (wn_some rfl rfl rfl hb4 rfl) rfl ?_
   refine rg_tail0 ?_
   refine Z28 ?_
   refine ol_q (wn_some rfl rfl rfl hb3 rfl) (op_pick_f (v:=.bool _) rfl hb4 rfl) rfl ?_
   refine Z1v ?_
   refine R4 ?_
   exact px_ret1 rfl (v:=.bool _) rfl (fun _ s=>(Sat.gateMk ((s.del 14).del 13))) ⟨congrArg Value.bool rfl,rfl⟩
  intro hb2 hp2
  exact absurd hb2 (by simp)
 intro hb1 hp1
 exact absurd hb1 (by simp)
theorem Points_calls {w0 w:World} {l:List HProp} (v0:Int) (hs:Sat w0 w (l)) (h:v0=0∨v0=1) :
  Calls Tryz.prog 41 #[.int .i64 v0] w (Ret w0 fun v l'=>v=.int .i64 0∧l'=l):=by
 refine calls_enter Tryz.func41 rfl rfl rfl hs ?_
 refine R16 ?_
 refine Z4 ?_ ?_
 ·intro hb1 hp1
  exact Z58
 intro hb1 hp1
 refine Z3 ?_ ?_
 ·intro hb2 hp2
  exact Z5g
 intro hb2 hp2
 refine Z1u ?_ ?_
 ·intro hb3 hp3
  exact absurd (of_decide_eq_true hb3) (by omega)
 intro hb3 hp3
 refine Z3 ?_ ?_
 ·intro hb4 hp4
  exact absurd (of_decide_eq_true hb4) (by omega)
 intro hb4 hp4
 refine Z1u ?_ ?_
 ·intro hb5 hp5
  exact absurd (of_decide_eq_true hb5) (by omega)
 intro hb5 hp5
 refine Z3 ?_ ?_
 ·intro hb6 hp6
  exact absurd (of_decide_eq_true hb6) (by omega)
 intro hb6 hp6
 refine Z3 ?_ ?_
 ·intro hb7 hp7
  exact absurd (of_decide_eq_true hb7) (by omega)
 intro hb7 hp7
 refine R8 ?_
 exact Z2p
theorem tagM_spk {xs:List Val} {n2 k sl:Int} {tg:Root} {mb:Int} {bd:Nat} {bits:List Bool} (h:(tagM xs n2 k sl tg mb bd bits).2=true):(spk xs.length n2 k sl mb bd bits).2=true:=by
 unfold tagM at h
 split at h
 ·assumption
 ·cases h
theorem range_yes2 {D:ChD} {n:Nat} (hi:D.Inj n) {i m:Nat} (hm:i+1+m≤n+1):(rangeIt D (i+1) m).filter (fun y=>decide (y.par=D.r i))=if m=0 then [] else [D.it (i+1)]:=range_yes hi (Nat.le_add_left 1 i) hm
theorem range_not2 {D:ChD} {n:Nat} (hi:D.Inj n) {i m:Nat} (hm:i+1+m≤n+1):(rangeIt D (i+1) m).filter (fun y=>!decide (y.par=D.r i))=rangeIt D (i+1+1) (m-1):=range_not hi (Nat.le_add_left 1 i) hm
theorem of_kids {ys:List OBlk} {ou:List PItem} {k:Nat} {x:PItem} (h1:ou.Perm (if k=0 then [] else [x])) (h2:SameB ys ou):((ys.length=0∧k=0)∨(ys.length=1∧0<k))∧∀ q (h:q<ys.length),q=0∧ys[q].root=x.root∧ys[q].slot=x.slot:=by
 have hl:=h2.len
 by_cases hk:k=0
 ·rw [if_pos hk] at h1
  have:ou=[]:=h1.eq_nil
  subst this
  exact ⟨.inl ⟨hl,hk⟩,fun q h=>absurd h (by rw [hl];simp)⟩
 ·rw [if_neg hk] at h1
  have:ou=[x]:=List.perm_singleton.1 h1
  subst this
  refine ⟨.inr ⟨hl,by omega⟩,fun q h=>?_⟩
  have hq:q=0:=by rw [hl] at h;simp at h;omega
  subst hq
  cases ys with
  | nil=>cases h
  | cons y r =>
   unfold SameB at h2
   simp only [List.map_cons,List.map_nil,List.cons.injEq,Prod.mk.injEq] at h2
   exact ⟨rfl,h2.1.1,h2.1.2⟩
def nxD (D:ChD) (dn:Bool) (i:Nat):List Root:=if dn=true then [] else [D.r i]
theorem nxD_f (D:ChD) (i:Nat):nxD D false i=[D.r i]:=rfl
def nyD (D:ChD) (q i:Nat):List Root:=if q=0 then [] else [D.r (i+1)]
theorem GCheck_calls {w0 w:World} {l:List HProp} (A:GA) (C:Cfg) (xs:List Val) (now:Int) (t:TreeS) (tb:TabS) (K:List PItem) (sl:Int) (tg:Root) (mb:Int) (tag:Tag) (hs:Sat w0 w ((GateObj A C xs now t tb K)::l)) (hG:GOK C xs) (hn:tb.latest.length=xs.length) (hS:SignedB xs C.committee sl tg mb tag) (ha:((t.node 0).getD nodeNo).slot<sl∧sl≤now) (hp:t.place (rtB sl tg mb tag)<0) (hk:∀ y∈K,y.root≠rtB sl tg mb tag) (hKl:K.length≤64) :
  Calls Tryz.prog 85 #[.pointer (some ⟨A.g,0,none⟩),.string (B (txtB sl tg mb tag))] w (Ret w0 fun v l'=>∃ bo bc,v=.tuple #[.agg (msgC ⟨1,sl,tg,mb,0,⟨bo,0,bc⟩,tag⟩).toArray,.int .i64 0]∧l'=GateObj A C xs now t tb K::l):=by
 have gcm:=hG.cm;have gnd:=hG.nd;have gxl:=hG.xl;have gor:=hG.orf;have gqu:=hG.qu;have gwi:=hG.wi;have gba:=hG.ba
 obtain ⟨hgb,htm⟩:=hS
 have htl:=txtB_len sl tg mb tag
 have hdec:=decB tg tag hgb
 have hok2:(tagM xs C.committee 1 sl tg mb 0 []).2=true:=by rw [htm]
 have hok1:(tagM xs C.committee 1 sl tg mb 0 []).1=tag:=by rw [htm]
 have hsp2:=tagM_spk hok2
 refine calls_enter Tryz.func85 rfl rfl rfl hs ?_
 refine R1 ?_
 refine Z3x ?_;intro bx1
 refine R5 ?_
 refine oi (os_call cb_73 rfl (fun w s=>by have q:=DecB_calls _ _ _ _ _  s (by omega) hdec;exact q)) ?_;rintro _ _ ⟨da1,dc1,rfl,rfl⟩
 refine R3 ?_
 refine Z3x ?_;intro bx2
 refine Z17 ?_
 refine R9 ?_
 refine Z23 ?_
 refine R6 ?_
 refine Z7 ?_
 refine oi (os_call cb_131 rfl (fun w s=>GAsked_calls _ _ _ _ _ _ _ _ _ _ _ _ _  s )) ?_;rintro _ _ ⟨rfl,rfl⟩
 refine Z6 ?_ ?_
 ·intro hb1 hp1
  exact absurd ha (by have h:=hb1;rw [Bool.not_eq_true'] at h;exact of_decide_eq_false h)
 intro hb1 hp1
 refine R3 ?_
 refine Z1y ?_
 refine R1 ?_
 refine cd_draw (M:=[]) mx [5] (by kernel_rfl) ?_
 refine R3 ?_
 refine rg_q (wn_none rfl) (op_lda (L:=cfgC ⟨⟨A.a,xs.length,A.c⟩,C.epoch,C.committee,C.nodes,C.orphans,C.early,C.quota,C.peers,C.bytes,C.window,C.ban,C.decay⟩) 0 ag_24 rfl rfl (by rfl) (by simp)) rfl rfl ?_
 refine rg_q (wn_none rfl) (op_lda (L:=msgC _) 13 ag_46 rfl rfl (msgC_ta _) (by simp [msgC_len])) rfl rfl ?_
 refine rg_i (wn_none rfl) (os_call cb_74 rfl (fun w s=>Speakers_calls (bits:=[]) _ _ _ _ _ _ _ _ _ _ _ _ _ _ _ _ _ _ _ _ _ _  s (by omega) (by omega) (rds_row 1 rfl rfl) (rds_emp _ _) (by decide) (by decide))) rfl rfl ?_;rintro _ _ ⟨sa3,sc3,rfl,rfl⟩;refine ⟨[_],rfl,?_⟩
 refine R5 ?_
 refine rg_nil_then1 ?_
 refine Z3 ?_ ?_
 ·intro hb2 hp2
  exact absurd hb2 (by rw [hsp2];simp)
 intro hb2 hp2
 refine R4 ?_
 refine Zo ?_
 refine R3 ?_
 refine rg_q (wn_none rfl) (op_lda (L:=cfgC ⟨⟨A.a,xs.length,A.c⟩,C.epoch,C.committee,C.nodes,C.orphans,C.early,C.quota,C.peers,C.bytes,C.window,C.ban,C.decay⟩) 1 ag_24 rfl rfl (by rfl) (by simp)) rfl rfl ?_
 refine rg_q (wn_none rfl) (op_lda (L:=msgC _) 14 ag_46 rfl rfl (msgC_ta _) (by simp [msgC_len])) rfl rfl ?_
 refine rg_soft (wn_none rfl) cb_132 ci_132 (fun M=>os_call cb_132 rfl (fun w s=>Check_calls (bits:=[]) _ _ _ _ _ _ _ _ _ _ _ _ _ _ _ _ _ _ _ _ _ _  s (by omega) (by omega) (rds_row 2 rfl rfl) (rds_emp _ _) (by decide) (by decide) hG.ky)) ?_
 refine Z1z ?_
 refine Z4 ?_ ?_
 ·intro hb3 hp3
  exact absurd hb3 (by rw [hok2,hok1];simp)
 intro hb3 hp3
 refine R3 ?_
 refine cd_ord 16 [1,2,3,4,5,6,7,8,9,10,11,12,13,0,14,15] ?_
 refine cd_imp (fun _ s=>Sat.gateMk s) ?_
 refine R1 ?_
 refine cd_draw (M:=[]) mx [3] (by kernel_rfl) ?_
 refine R3 ?_
 refine rg_i (wn_none rfl) (os_call cb_134 rfl (fun w s=>RootB_calls _ _ _ _ _ _  s (by assumption))) rfl rfl ?_;rintro _ _ ⟨rfl,rfl⟩;refine ⟨[],rfl,?_⟩
 refine rg_soft (wn_none rfl) cb_133 ci_133 (fun M=>os_call cb_133 rfl (fun w s=>GKnown_calls _ _ _ _ _ _ _ _ _ _ _ _ _ _  s hp hk (by omega))) ?_
 refine Zu ?_
 refine Z23 ?_
 refine R4 ?_
 refine Zg ?_
 refine Z17 ?_
 refine R4 ?_
 exact px_rv2 rfl (rv_cella 0 ag_46 rfl rfl (msgC_ta _) (by simp [msgC_len])) (rv_tmp (v:=.int _ _) rfl) (fun _ s=>(((s.del 3).del 2).del 0)) ⟨_,_,rfl,rfl⟩
theorem GAdmit_calls {w0 w:World} {l:List HProp} (A:GA) (C:Cfg) (xs:List Val) (now:Int) (tb:TabS) (D:ChD) (n j m:Nat) (mb:Int) (bo:Option Addr) (bc:Nat) (tag:Tag) (hs:Sat w0 w ((GateObj A C xs now (pathT D C.nodes j) tb (rangeIt D (j+1+1) m))::l)) (hG:GOK C xs) (hn:tb.latest.length=xs.length) (hD:D.OK xs C.committee n) (hnn:(n:Int)<C.nodes∧(n:Int)≤C.orphans∧(n:Int)≤C.quota) (hm:j+1+m≤n) :
  Calls Tryz.prog 137 #[.pointer (some ⟨A.g,0,none⟩),.agg (rootC (D.r (j+1))).toArray,.agg (msgC ⟨1,((j+1:Nat):Int),D.r j,mb,0,⟨bo,0,bc⟩,tag⟩).toArray] w (Ret w0 fun v l'=>v=.tuple #[]∧l'=GateObj A C xs now (pathT D C.nodes (j+1+m)) tb []::l):=by
 have gcm:=hG.cm;have gnd:=hG.nd;have gxl:=hG.xl;have gor:=hG.orf;have gqu:=hG.qu;have gwi:=hG.wi;have gba:=hG.ba
 have hn30:=hD.n30
 have hadd0:=path_add (most:=C.nodes) hD.inj (j:=j) (by omega) hn30 (by omega)
 refine calls_enter Tryz.func137 rfl rfl rfl hs ?_
 refine Z1s ?_;intro bx1 bx2
 refine R2 ?_
 refine cd_pull2 ?_
 refine Z1y ?_
 refine cd_pull3 ?_
 refine cd_pull4 ?_
 refine cd_pull5 ?_
 refine cd_pull6 ?_
 refine R1 ?_
 refine cd_draw (M:=[_,_,_,_]) mx [10] (by kernel_rfl) ?_
 refine R10 ?_
 refine rg_i (wn_none rfl) (os_pull1 (os_pull2 (os_pull3 (os_call cb_168 rfl (fun w s=>BAdd_calls (r:=(D.r (j+1))) (q:=(D.r j)) _ _ _ _ _ _ _ _ _ _ _ _ _ _ _ _ _ _ _ _ _  s hn hG.sk (rds_row 1 rfl rfl)))))) rfl rfl ?_;rintro _ _ ⟨rfl,rfl⟩;rw [hadd0];dsimp only;refine ⟨[_,_,_,_],rfl,?_⟩
 refine rg_nil_then4 ?_
 refine R1 ?_
 refine oq (op_lda (L:=rootC _) 14 ag_35 rfl rfl (rootC_take' _) (by simp [rootC_len])) ?_
 refine oi (os_bslice (E:=encRoot) [_] (ys:=[D.r (j+1)]) sB_38 zv_35 rfl rfl rfl rfl (by decide)) ?_;rintro _ _ ⟨ao1,rfl,rfl⟩
 refine R4 ?_
 refine cd_loop2 (α:=Nat×Bool×Option Addr×Nat) [(6,7),(9,9),(23,71)] (fun x=>[(6,.slice x.2.2.1 (nxD D x.2.1 x.1).length x.2.2.2)]) (fun x=>Row 35 encRoot (.slice x.2.2.1 (nxD D x.2.1 x.1).length x.2.2.2) (nxD D x.2.1 x.1)::Blk A.g (.cells #[.slice A.a xs.length A.c,.int .i64 C.epoch,.int .i64 C.committee,.int .i64 C.nodes,.int .i64 C.orphans,.int .i64 C.early,.int .i64 C.quota,.int .i64 C.peers,.int .i64 C.bytes,.int .i64 C.window,.int .i64 C.ban,.int .i64 C.decay,.pointer (some ⟨A.ck,0,none⟩),.pointer (some ⟨A.bk,0,none⟩),.pointer (some ⟨A.or,0,none⟩),.pointer (some ⟨A.ea,0,none⟩),.pointer (some ⟨A.pe,0,none⟩),.int .i64 0] 82 (0,0))::Row 64 encVal (.slice A.a xs.length A.c) xs::Blk A.ck (.cells #[.int .i64 now,.int .i64 C.window] 154 (0,0))::Blk A.bk (.cells #[.slice A.a xs.length A.c,.int .i64 C.epoch,.int .i64 C.committee,.int .i64 C.nodes,.int .i64 C.orphans,.int .i64 C.early,.int .i64 C.quota,.int .i64 C.peers,.int .i64 C.bytes,.int .i64 C.window,.int .i64 C.ban,.int .i64 C.decay,.pointer (some ⟨A.tr,0,none⟩),.pointer (some ⟨A.w,0,none⟩),.pointer (some ⟨A.tb,0,none⟩)] 103 (0,0))::TreeObj A.tr (pathT D C.nodes x.1)::WObj A.w A.tr ((pathT D C.nodes x.1)).nodes (ownE xs (effT tb) ((pathT D C.nodes x.1)).nodes)::TabObj A.tb tb::Blk A.or (.cells #[.pointer (some ⟨A.po,0,none⟩)] 111 (0,0))::PoolObj A.po C.orphans C.quota (rangeIt D (x.1+1) ((j+1+m)-x.1))::Blk A.ea (.cells #[.pointer (some ⟨A.pq,0,none⟩)] 163 (0,0))::PoolObj A.pq C.early C.quota []::Blk A.pe (.cells #[.map (some A.mp),.int .i64 C.peers,.int .i64 C.ban,.int .i64 C.decay,.int .i64 0] 157 (0,0))::MapO EVI EVI A.mp ([]:List (Int×Int))::l) (fun x=>j+1≤x.1∧x.1≤(j+1+m)∧(x.2.1=true→x.1=(j+1+m))) (fun x=>2*((j+1+m)-x.1)+(if x.2.1=true then 0 else 1)) (j+1,false,ao1,1) ⟨Nat.le_refl _,Nat.le_add_right _ _,fun h=>by cases h⟩ ⟨rfl,trivial⟩ (fun _ s=>by rw [show (j+1+m)-(j+1)=m by omega];exact (s.arr 16 [0,5,6,7,1,2,3,4,8,9,10,11,12,13])) ?_
 rintro ⟨i,dn,b1,d1⟩ ⟨hi1,hi2,hi3⟩ f;(try dsimp only at hi1 hi2 hi3 ⊢)
 refine R3 ?_
 refine Z73 ?_
 refine Z6 ?_ ?_
 ·intro hb1 hp1
  obtain rfl:dn=false:=by cases dn with | false=>rfl | true=>exact absurd (of_decide_eq_true hb1) (by simp [nxD])
  rw [nxD_f]
  refine R5 ?_
  refine oq (op_index 0 sB_38 rfl rfl rfl (rds_row 0 rfl rfl) rfl (by simp)) ?_
  refine oq (op_ldaw (L:=rootC _) ag_35 (rds_row 0 rfl rfl) rfl (by simp) rfl (rootC_ta _)) ?_
  refine Zp ?_;intro bx3
  refine Z4z ?_
  refine R4 ?_
  refine Z2 ?_
  refine oi (os_slicerow_from 1 sB_38 rfl rfl rfl rfl (by simp)) ?_;rintro _ _ ⟨bo2,bc2,rfl,rfl⟩
  refine R3 ?_
  refine cd_pull9 ?_
  refine cd_pull10 ?_
  refine R1 ?_
  refine cd_draw (M:=[_,_]) mx [6] (by kernel_rfl) ?_
  refine R6 ?_
  refine rg_i (wn_none rfl) (os_pull1 (os_call cb_169 rfl (fun w s=>OrOf_calls (r:=(D.r i)) _ _ _ _ _  s (by rw [range_len];omega) (hD.isB (by omega) (by omega))))) rfl rfl ?_;rintro _ _ ⟨oa2,oc2,oy2,ou2,hou2,hoy2,rfl,rfl⟩;rw [range_yes2 hD.inj (by omega)] at hou2;rw [range_not2 hD.inj (by omega)];obtain ⟨hyl,hkid⟩:=of_kids hou2 hoy2;refine ⟨[_,_,_],rfl,?_⟩
  refine rg_q (wn_none rfl) (op_len_slice Tryz.underlying286 rfl) rfl rfl ?_
  refine R1 ?_
  refine rg_nil_then3 ?_
  refine R1 ?_
  refine cd_loop2 (α:=Nat×Option Addr×Nat) [(6,6),(9,9),(39,71)] (fun x=>[(6,.slice x.2.1 (nyD D x.1 i).length x.2.2),(39,.int .i64 (x.1:Int))]) (fun x=>Row 35 encRoot (.slice x.2.1 (nyD D x.1 i).length x.2.2) (nyD D x.1 i)::Blk A.g (.cells #[.slice A.a xs.length A.c,.int .i64 C.epoch,.int .i64 C.committee,.int .i64 C.nodes,.int .i64 C.orphans,.int .i64 C.early,.int .i64 C.quota,.int .i64 C.peers,.int .i64 C.bytes,.int .i64 C.window,.int .i64 C.ban,.int .i64 C.decay,.pointer (some ⟨A.ck,0,none⟩),.pointer (some ⟨A.bk,0,none⟩),.pointer (some ⟨A.or,0,none⟩),.pointer (some ⟨A.ea,0,none⟩),.pointer (some ⟨A.pe,0,none⟩),.int .i64 0] 82 (0,0))::Row 64 encVal (.slice A.a xs.length A.c) xs::Blk A.ck (.cells #[.int .i64 now,.int .i64 C.window] 154 (0,0))::Blk A.bk (.cells #[.slice A.a xs.length A.c,.int .i64 C.epoch,.int .i64 C.committee,.int .i64 C.nodes,.int .i64 C.orphans,.int .i64 C.early,.int .i64 C.quota,.int .i64 C.peers,.int .i64 C.bytes,.int .i64 C.window,.int .i64 C.ban,.int .i64 C.decay,.pointer (some ⟨A.tr,0,none⟩),.pointer (some ⟨A.w,0,none⟩),.pointer (some ⟨A.tb,0,none⟩)] 103 (0,0))::TreeObj A.tr (pathT D C.nodes (i+x.1))::WObj A.w A.tr ((pathT D C.nodes (i+x.1))).nodes (ownE xs (effT tb) ((pathT D C.nodes (i+x.1))).nodes)::TabObj A.tb tb::Blk A.or (.cells #[.pointer (some ⟨A.po,0,none⟩)] 111 (0,0))::PoolObj A.po C.orphans C.quota (rangeIt D (i+1+1) ((j+1+m)-i-1))::Blk A.ea (.cells #[.pointer (some ⟨A.pq,0,none⟩)] 163 (0,0))::PoolObj A.pq C.early C.quota []::Blk A.pe (.cells #[.map (some A.mp),.int .i64 C.peers,.int .i64 C.ban,.int .i64 C.decay,.int .i64 0] 157 (0,0))::MapO EVI EVI A.mp ([]:List (Int×Int))::Row 289 encOBlk (.slice oa2 oy2.length oc2) oy2::Blk bx3 (.cells (rootC (D.r i)).toArray 35 (0,0))::l) (fun x=>x.1≤oy2.length) (fun x=>oy2.length-x.1) (0,bo2,bc2) (Nat.zero_le _) ⟨rfl,rfl,trivial⟩ (fun _ s=>(s.arr 16 [3,5,6,7,8,9,10,11,1,2,12,13,14,15,0,4])) ?_
  rintro ⟨q,b3,d3⟩ hq f;(try dsimp only at hq ⊢)
  refine Z3 ?_ ?_
  ·intro hb2 hp2
   have hq1:q<oy2.length:=by omega
   obtain ⟨hqz,hyr,hys⟩:=hkid q hq1
   have hq0:nyD D q i=[]:=by rw [hqz];rfl
   have hadd:(pathT D C.nodes (i+q)).add oy2[q].root (D.r i) oy2[q].slot=(0,pathT D C.nodes (i+q+1)):=by rw [hyr,hys,hqz];exact path_add hD.inj (by omega) hn30 (by omega)
   have eN:nyD D q i++[oy2[q].root]=nyD D (q+1) i:=by rw [hq0,hyr];rfl
   refine R5 ?_
   refine oq (op_index q sB_286 rfl rfl rfl (rds_row 14 rfl rfl) rfl (by omega)) ?_
   refine oq (op_ldaw (L:=oBlkC _) ag_289 (rds_row 14 rfl rfl) rfl (by omega) rfl (oBlkC_ta _)) ?_
   refine oi (os_alloc (cs:=(oBlkC OBlk.zero).toArray) zB_289 (by kernel_rfl)) ?_;rintro _ _ ⟨bx4,rfl,rfl⟩
   refine oN (os_storew (oBlkC _) ag_289 rfl rfl (oBlkC_len _) (oBlkC_one _) (by simp [oBlkC_len]) (Free.zero _)) ?_;rintro _ _ ⟨rfl,rfl⟩
   refine R2 ?_
   refine cd_pull5 ?_
   refine cd_pull6 ?_
   refine cd_pull7 ?_
   refine cd_pull8 ?_
   refine R1 ?_
   refine cd_draw (M:=[_,_,_,_]) mx [11] (by kernel_rfl) ?_
   refine R10 ?_
   refine rg_q (wn_none rfl) (op_ld 0 sc_3 rfl rfl (show (oBlkC _).toArray[33]? = some (.int .i64 oy2[q].slot) from oBlkC_a33 _)) rfl rfl ?_
   refine rg_i (wn_none rfl) (os_pull1 (os_pull2 (os_pull3 (os_call cb_168 rfl (fun w s=>BAdd_calls (q:=(D.r i)) _ _ _ _ _ _ _ _ _ _ _ _ _ _ _ _ _ _ _ _ _ _  s hn hG.sk (rds_row 3 rfl rfl)))))) rfl rfl ?_;rintro _ _ ⟨rfl,rfl⟩;rw [hadd];dsimp only;refine ⟨[_,_,_,_],rfl,?_⟩
   refine rg_nil_then4 ?_
   refine Z1u ?_ ?_
   ·intro hb3 hp3
    refine R4 ?_
    refine Za0 ?_;intro ao2
    refine ol_pull6 ?_
    refine oi (os_append (E:=encRoot) rfl sB_38 zv_35 rfl rfl rfl (fun w s=>(rds_row 1 rfl rfl) [] w s) rfl (by rw [hq0];simp) (by rw [hq0];unfold maxLen;simp)) ?_;rintro _ _ ⟨ao3,ac3,rfl,rfl⟩
    refine R9 ?_
    refine px_loop2 (q+1,ao3,ac3) (by (try dsimp only);omega) (by (try dsimp only);omega) ⟨congrArg (fun q=>Value.slice ao3 (List.length q) ac3) eN,congrArg (Value.int .i64) (by simp),trivial⟩ ?_ (fun _ s=>(by (try dsimp only);rw [←eN];exact (s.arr 18 [0,7,8,9,2,3,4,5,10,11,12,13,14,15,16,17])))
    exact Z0
   intro hb3 hp3
   exact absurd hb3 (by simp)
  intro hb2 hp2
  have hqe:q=oy2.length:=by omega
  have eN:nyD D q i=nxD D (decide (q=0)) (i+q):=by rcases hyl with ⟨h,_⟩ | ⟨h,_⟩<;>rw [hqe,h]<;>rfl
  have eK:rangeIt D (i+1+1) ((j+1+m)-i-1)=rangeIt D (i+q+1) ((j+1+m)-(i+q)):=by rcases hyl with ⟨h,h2⟩ | ⟨h,h2⟩<;>rw [hqe,h]<;>first | (show rangeIt D (i+1+1) ((j+1+m)-i-1)=rangeIt D (i+1) ((j+1+m)-i);rw [h2];rfl) | rw [Nat.sub_sub]
  refine R5 ?_
  refine px_loop2 (i+q,decide (q=0),b3,d3) ⟨by (try dsimp only);omega,by (try dsimp only);rcases hyl with ⟨h,h2⟩ | ⟨h,h2⟩<;>omega,fun h=>by have:=of_decide_eq_true h;(try dsimp only);rcases hyl with ⟨h,h2⟩ | ⟨h,h2⟩<;>omega⟩ (by (try dsimp only);rcases hyl with ⟨h,h2⟩ | ⟨h,h2⟩<;>rw [hqe,h]<;>simp<;>omega) ⟨congrArg (fun q=>Value.slice b3 (List.length q) d3) eN,trivial⟩ ?_ (fun _ s=>(by (try dsimp only);rw [←eN,←eK];exact ((s.del 15).del 14)))
  exact Z0
 intro hb1 hp1
 have hdn:dn=true:=by cases dn with | true=>rfl | false=>exact absurd hb1 (by simp [nxD])
 obtain rfl:=hi3 hdn
 rw [Nat.sub_self]
 refine R4 ?_
 exact px_end0 rfl (fun _ s=>(Sat.gateMk (s.del 0))) ⟨rfl,rfl⟩
theorem GBlock_calls {w0 w:World} {l:List HProp} (A:GA) (C:Cfg) (xs:List Val) (now:Int) (tb:TabS) (D:ChD) (n j m b:Nat) (bo:Option Addr) (bc:Nat) (hs:Sat w0 w ((GateObj A C xs now (pathT D C.nodes j) tb (rangeIt D (b+1) m))::l)) (hG:GOK C xs) (hn:tb.latest.length=xs.length) (hD:D.OK xs C.committee n) (hnn:(n:Int)<C.nodes∧(n:Int)≤C.orphans∧(n:Int)≤C.quota) (hb:j<b∧b+m≤n) :
  Calls Tryz.prog 86 #[.pointer (some ⟨A.g,0,none⟩),.int .i64 D.peer,.agg (msgC ⟨1,(b:Int),D.r (b-1),D.mb b,0,⟨bo,0,bc⟩,D.tg b⟩).toArray,.string (B (txtB (b:Int) (D.r (b-1)) (D.mb b) (D.tg b)))] w (Ret w0 fun v l'=>v=.int .i64 (if b=j+1 then 0 else 1)∧l'=GateObj A C xs now (pathT D C.nodes (if b=j+1 then b+m else j)) tb (if b=j+1 then [] else (rangeIt D b (m+1)))::l):=by
 have gcm:=hG.cm;have gnd:=hG.nd;have gxl:=hG.xl;have gor:=hG.orf;have gqu:=hG.qu;have gwi:=hG.wi;have gba:=hG.ba
 have hn30:=hD.n30
 obtain ⟨hgb,htm⟩:=hD.sg b (by omega) (by omega)
 have hrt:=hD.rt b (by omega) (by omega)
 refine calls_enter Tryz.func86 rfl rfl rfl hs ?_
 refine Z5 ?_;intro bx1
 refine R3 ?_
 by_cases hbj:b=j+1
 ·
  have hpl:(pathT D C.nodes j).place (D.r (b-1))=((b-1:Nat):Int):=path_place hD.inj (by omega) (by omega)
  have hnd:(pathT D C.nodes j).node ((b-1:Nat):Int)=some (nodeP D (b-1)):=path_node (by omega)
  simp only [if_pos hbj]
  subst hbj
  refine cd_pull1 ?_
  refine Z1y ?_
  refine R1 ?_
  refine cd_draw (M:=[]) mx [19,20] (by kernel_rfl) ?_
  refine R5 ?_
  refine Z8s ?_
  refine R5 ?_
  refine Z8s ?_
  refine R1 ?_
  refine Zc4 ?_
  rw [hpl]
  refine rg_soft (wn_none rfl) cb_75 ci_75 (fun M=>os_back (os_pull4 (os_call cb_75 rfl (fun w s=>Node_calls _ _ _  s ))) (fun _ s=>(s.push 4))) ?_
  rw [hnd]
  refine R3 ?_
  refine rg_i (wn_none rfl) (os_alloc (cs:=(nodeC Node.zero).toArray) zB_169 (by kernel_rfl)) rfl rfl ?_;rintro _ _ ⟨bx2,rfl,rfl⟩;refine ⟨[_],rfl,?_⟩
  refine Zbu ?_
  refine Z2y ?_
  refine R8 ?_
  refine Z4 ?_ ?_
  ·intro hb1 hp1
   exact absurd hb1 (by simp)
  intro hb1 hp1
  refine R4 ?_
  refine oq (op_ld 14 sc_3 rfl rfl (msgC_a1 _)) ?_
  refine R4 ?_
  refine Z4 ?_ ?_
  ·intro hb2 hp2
   exact absurd (of_decide_eq_true hb2) (by simp only [Option.getD_some,nodeP];omega)
  intro hb2 hp2
  refine R6 ?_
  refine ol_pull4 ?_
  refine Z8r ?_
  refine ol_pull5 ?_
  refine oi (os_call cb_136 rfl (fun w s=>Room_calls _ _  s )) ?_;rintro _ _ ⟨rfl,rfl⟩
  refine R4 ?_
  refine Z4 ?_ ?_
  ·intro hb3 hp3
   exact absurd (of_decide_eq_true hb3) (by rw [path_len];simp only [pathT];omega)
  intro hb3 hp3
  refine R3 ?_
  refine cd_ord 15 [3,4,5,1,0,6,7,8,9,10,11,12,13,2,14] ?_
  refine cd_imp (fun _ s=>Sat.gateMk s) ?_
  refine R1 ?_
  refine cd_draw (M:=[_]) mx [2,4] (by kernel_rfl) ?_
  refine R2 ?_
  refine rg_i (wn_none rfl) (os_call cb_134 rfl (fun w s=>RootB_calls _ _ _ _ _ _  s (by assumption))) rfl rfl ?_;rintro _ l ⟨rfl,rfl⟩;rw [←hrt];refine ⟨[_],rfl,?_⟩
  refine R1 ?_
  refine rg_i (wn_none rfl) (os_call cb_137 rfl (fun w s=>GAdmit_calls (D:=D) (n:=n) (j:=j) (m:=m) _ _ _ _ _ _ _ _ _  s hG hn hD hnn (by omega))) rfl rfl ?_;rintro _ _ ⟨rfl,rfl⟩;refine ⟨[_],rfl,?_⟩
  refine rg_nil_then1 ?_
  refine R5 ?_
  exact px_ret1 rfl (v:=.int _ _) rfl (fun _ s=>((s.del 2).del 1)) ⟨rfl,rfl⟩
 have hpl:(pathT D C.nodes j).place (D.r (b-1))=-1:=path_place_no hD.inj (by omega) (by omega)
 have hnd:=path_node_no (pathT D C.nodes j)
 simp only [if_neg hbj]
 refine cd_pull1 ?_
 refine Z1y ?_
 refine R1 ?_
 refine cd_draw (M:=[]) mx [19,20] (by kernel_rfl) ?_
 refine R5 ?_
 refine Z8s ?_
 refine R5 ?_
 refine Z8s ?_
 refine R1 ?_
 refine Zc4 ?_
 rw [hpl]
 refine rg_soft (wn_none rfl) cb_75 ci_75 (fun M=>os_back (os_pull4 (os_call cb_75 rfl (fun w s=>Node_calls _ _ _  s ))) (fun _ s=>(s.push 4))) ?_
 rw [hnd]
 refine R3 ?_
 refine rg_i (wn_none rfl) (os_alloc (cs:=(nodeC Node.zero).toArray) zB_169 (by kernel_rfl)) rfl rfl ?_;rintro _ _ ⟨bx3,rfl,rfl⟩;refine ⟨[_],rfl,?_⟩
 refine Zbu ?_
 refine Z2y ?_
 refine R8 ?_
 refine Z4 ?_ ?_
 ·intro hb4 hp4
  refine R8 ?_
  refine ol_pull9 ?_
  refine ol_pull9 ?_
  refine oi (os_call cb_135 rfl (fun w s=>OrPut_calls (sl:=(b:Int)) (tg:=(D.r (b-1))) (mb:=(D.mb b)) (tag:=(D.tg b)) _ _ _ _ _ _  s hgb (by rw [range_len];omega) (by rw [range_len];omega) (by have h:=range_cnt (D:=D) D.peer (b+1) m;omega) (by rw [←hrt];exact range_no hD.inj (n:=n) (by omega) (by omega) (.inl (by omega))))) ?_;rintro _ _ ⟨rfl,rfl⟩
  refine R3 ?_
  refine Zp ?_;intro bx4
  refine R1 ?_
  refine Z4z ?_
  refine R10 ?_
  have eR:(⟨(b:Int),(rtB (b:Int) (D.r (b-1)) (D.mb b) (D.tg b)),D.peer,D.r (b-1),txtB (b:Int) (D.r (b-1)) (D.mb b) (D.tg b)⟩:PItem)::rangeIt D (b+1) m=rangeIt D b (m+1):=by rw [←range_cons,←hD.rt b (by omega) (by omega)];rfl
  exact px_ret1 rfl (v:=.int _ _) rfl (fun _ s=>by rw [←eR];exact (Sat.gateMk (s.arr 16 [4,5,6,7,8,9,10,1,2,11,12,13,14]))) ⟨rfl,rfl⟩
 intro hb4 hp4
 exact absurd hb4 (by simp)
theorem GJudge_calls {w0 w:World} {l:List HProp} (A:GA) (C:Cfg) (xs:List Val) (now:Int) (tb:TabS) (D:ChD) (n j m b:Nat) (hs:Sat w0 w ((GateObj A C xs now (pathT D C.nodes j) tb (rangeIt D (b+1) m))::l)) (hG:GOK C xs) (hn:tb.latest.length=xs.length) (hD:D.OK xs C.committee n) (hnn:(n:Int)<C.nodes∧(n:Int)≤C.orphans∧(n:Int)≤C.quota) (hb:j<b∧b+m≤n) (hbn:(b:Int)≤now) (hby:63≤C.bytes) (hpe:I64 D.peer) :
  Calls Tryz.prog 39 #[.pointer (some ⟨A.g,0,none⟩),.int .i64 D.peer,.string (B (txtB (b:Int) (D.r (b-1)) (D.mb b) (D.tg b)))] w (Ret w0 fun v l'=>v=.int .i64 (if b=j+1 then 0 else 1)∧l'=GateObj A C xs now (pathT D C.nodes (if b=j+1 then b+m else j)) tb (if b=j+1 then [] else (rangeIt D b (m+1)))::l):=by
 have gcm:=hG.cm;have gnd:=hG.nd;have gxl:=hG.xl;have gor:=hG.orf;have gqu:=hG.qu;have gwi:=hG.wi;have gba:=hG.ba
 have hn30:=hD.n30
 have hS:=hD.sg b (by omega) (by omega)
 have hrt:=hD.rt b (by omega) (by omega)
 have hp:(pathT D C.nodes j).place (rtB (b:Int) (D.r (b-1)) (D.mb b) (D.tg b))<0:=by rw [←hrt,path_place_no hD.inj (by omega) (by omega:b≤n)];decide
 have hk:∀ y∈rangeIt D (b+1) m,y.root≠(rtB (b:Int) (D.r (b-1)) (D.mb b) (D.tg b)):=by rw [←hrt];exact range_no hD.inj (n:=n) (by omega) (by omega) (.inl (by omega))
 have ha:(((pathT D C.nodes j).node 0).getD nodeNo).slot<(b:Int)∧(b:Int)≤now:=by
  have h0:(pathT D C.nodes j).node 0=some (nodeP D 0):=path_node (i:=0) (Nat.zero_le _)
  rw [h0];exact ⟨by simp only [Option.getD_some,nodeP];omega,hbn⟩
 refine calls_enter Tryz.func39 rfl rfl rfl hs ?_
 refine R6 ?_
 refine Z1y ?_
 refine R7 ?_
 refine ol_pull12 ?_
 refine ol_pull12 ?_
 refine oi (os_call cb_84 rfl (fun w s=>PeBanned_calls _ _ _ _ _ _  s (by assumption) (by omega))) ?_;rintro _ _ ⟨rfl,rfl⟩
 refine R3 ?_
 refine Z23 ?_
 refine R2 ?_
 refine Z27 ?_
 refine R9 ?_
 refine Z4 ?_ ?_
 ·intro hb1 hp1
  exact absurd (of_decide_eq_true hb1) (by rw [txtB_len];omega)
 intro hb1 hp1
 refine R3 ?_
 refine cd_ord 13 [2,3,4,5,6,7,8,9,10,11,12,0,1] ?_
 refine cd_imp (fun _ s=>Sat.gateMk s) ?_
 refine R3 ?_
 refine oi (os_call cb_85 rfl (fun w s=>GCheck_calls _ _ _ _ _ _ _ _ _ _ _  s hG hn hS ha hp hk (by rw [range_len];omega))) ?_;rintro _ _ ⟨mo2,mc2,rfl,rfl⟩
 refine R3 ?_
 refine Z3x ?_;intro bx1
 refine Z17 ?_
 refine R11 ?_
 refine Z4 ?_ ?_
 ·intro hb2 hp2
  exact absurd hb2 (by simp)
 intro hb2 hp2
 refine R7 ?_
 refine Z4 ?_ ?_
 ·intro hb3 hp3
  refine R5 ?_
  refine Z2 ?_
  refine oi (os_call cb_86 rfl (fun w s=>GBlock_calls (D:=D) (n:=n) (j:=j) (m:=m) (b:=b) _ _ _ _ _ _ _  s hG hn hD hnn (by omega))) ?_;rintro _ _ ⟨rfl,rfl⟩
  refine R6 ?_
  exact px_ret1 rfl (v:=.int _ _) rfl (fun _ s=>(s.del 1)) ⟨rfl,rfl⟩
 intro hb3 hp3
 exact absurd hb3 (by simp)
theorem GDeliver_calls {w0 w:World} {l:List HProp} (A:GA) (C:Cfg) (xs:List Val) (now:Int) (tb:TabS) (D:ChD) (n j m b:Nat) (hs:Sat w0 w ((GateObj A C xs now (pathT D C.nodes j) tb (rangeIt D (b+1) m))::l)) (hG:GOK C xs) (hn:tb.latest.length=xs.length) (hD:D.OK xs C.committee n) (hnn:(n:Int)<C.nodes∧(n:Int)≤C.orphans∧(n:Int)≤C.quota) (hb:j<b∧b+m≤n) (hbn:(b:Int)≤now) (hby:63≤C.bytes) (hpe:I64 D.peer) :
  Calls Tryz.prog 13 #[.pointer (some ⟨A.g,0,none⟩),.int .i64 D.peer,.string (B (txtB (b:Int) (D.r (b-1)) (D.mb b) (D.tg b)))] w (Ret w0 fun v l'=>v=.int .i64 (if b=j+1 then 0 else 1)∧l'=GateObj A C xs now (pathT D C.nodes (if b=j+1 then b+m else j)) tb (if b=j+1 then [] else (rangeIt D b (m+1)))::l):=by
 refine calls_enter Tryz.func13 rfl rfl rfl hs ?_
 refine R7 ?_
 refine Z6c ?_
 refine Zi ?_
 refine R6 ?_
 refine oi (os_call cb_39 rfl (fun w s=>GJudge_calls (D:=D) (n:=n) (j:=j) (m:=m) (b:=b) _ _ _ _ _  s hG hn hD hnn hb hbn hby hpe)) ?_;rintro _ _ ⟨rfl,rfl⟩
 refine R3 ?_
 refine Z1y ?_
 refine cd_pull11 ?_
 refine cd_pull12 ?_
 refine R1 ?_
 refine cd_draw (M:=[_,_]) mx [8] (by kernel_rfl) ?_
 refine R7 ?_
 refine rg_soft (wn_none rfl) cb_41 ci_41 (fun M=>os_call cb_41 rfl (fun w s=>Points_calls _  s (by split<;>simp))) ?_
 refine rg_i (wn_none rfl) (os_pull1 (os_call cb_40 rfl (fun w s=>PeFail_calls _ _ _ _ _ _ _  s (Int.le_refl _)))) rfl rfl ?_;rintro _ _ ⟨rfl,rfl⟩;refine ⟨[_,_],rfl,?_⟩
 refine rg_nil_then2 ?_
 refine R6 ?_
 exact px_ret1 rfl (v:=.int _ _) rfl (fun _ s=>(Sat.gateMk (s.arr 13 [2,3,4,5,6,7,8,9,10,11,12,0,1]))) ⟨rfl,rfl⟩
theorem GTick_calls {w0 w:World} {l:List HProp} (A:GA) (C:Cfg) (xs:List Val) (now:Int) (t:TreeS) (tb:TabS) (K:List PItem) (hs:Sat w0 w ((GateObj A C xs now t tb K)::l)) (hG:GOK C xs) (hn:tb.latest.length=xs.length) (h0:0≤now∧now<900) (hfg:∀ s,tb.forget s=tb) :
  Calls Tryz.prog 8 #[.pointer (some ⟨A.g,0,none⟩)] w (Ret w0 fun v l'=>v=.bool true∧l'=GateObj A C xs (now+1) t tb K::l):=by
 have gcm:=hG.cm;have gnd:=hG.nd;have gxl:=hG.xl;have gor:=hG.orf;have gqu:=hG.qu;have gwi:=hG.wi;have gba:=hG.ba
 refine calls_enter Tryz.func8 rfl rfl rfl hs ?_
 refine R5 ?_
 refine Z1y ?_
 refine R2 ?_
 refine Z6c ?_
 refine R1 ?_
 refine Z6e ?_
 refine Z6f ?_
 refine ol_q (wn_some rfl rfl rfl rfl rfl) (op_field fld_82_1 rfl) rfl ?_
 refine ol_q (wn_some rfl rfl rfl rfl rfl) (op_ld 0 sc_76 rfl rfl rfl) rfl ?_
 refine Z7 ?_
 refine ol_i (wn_some rfl rfl rfl rfl rfl) (os_call cb_26 rfl (fun w s=>CTick_calls _ _ _  s (by omega))) rfl ?_;rintro _ _ ⟨rfl,rfl⟩
 refine Z6l ?_
 refine Z1n ?_
 refine Zi ?_
 refine R8 ?_
 refine ol_pull12 ?_
 refine ol_pull12 ?_
 refine oi (os_call cb_27 rfl (fun w s=>PeTick_calls _ _ _ _ _  s )) ?_;rintro _ _ ⟨rfl,rfl⟩
 refine R3 ?_
 refine cd_pull11 ?_
 refine cd_pull12 ?_
 refine R1 ?_
 refine cd_draw (M:=[_,_]) mx [10] (by kernel_rfl) ?_
 refine R9 ?_
 refine rg_soft (wn_none rfl) cb_29 ci_29 (fun M=>os_back (os_pull2 (os_call cb_29 rfl (fun w s=>CNow_calls _ _ _  s ))) (fun _ s=>(s.arr 11 [1,2,0,3,4,5,6,7,8,9,10]))) ?_
 refine rg_i (wn_none rfl) (os_pull1 (os_call cb_28 rfl (fun w s=>EaRipe_calls _ _ _ _ _  s ))) rfl rfl ?_;rintro _ _ ⟨rfl,rfl⟩;refine ⟨[_,_],rfl,?_⟩
 refine rg_q (wn_none rfl) (op_len_slice Tryz.underlying83 rfl) rfl rfl ?_
 refine R1 ?_
 refine rg_nil_then2 ?_
 refine R1 ?_
 refine cd_loop2 (α:=Unit) [(4,4),(6,6),(35,58)] (fun x=>[(35,.int .i64 0)]) (fun _=>_) (fun x=>True) (fun x=>0) () trivial ⟨rfl,trivial⟩ (fun _ s=>s) ?_
 rintro ⟨⟩ _ f;(try dsimp only)
 refine Z3 ?_ ?_
 ·intro hb1 hp1
  exact absurd (of_decide_eq_true hb1) (by decide)
 intro hb1 hp1
 refine R5 ?_
 refine cd_pull7 ?_
 refine cd_pull10 ?_
 refine R1 ?_
 refine cd_draw (M:=[_,_]) mx [10] (by kernel_rfl) ?_
 refine R9 ?_
 refine rg_soft (wn_none rfl) cb_33 ci_33 (fun M=>os_back (os_pull4 (os_call cb_33 rfl (fun w s=>CFirst_calls _ _ _  s (by omega) (by omega)))) (fun _ s=>(s.arr 11 [1,2,3,4,0,5,6,7,8,9,10]))) ?_
 refine rg_i (wn_none rfl) (os_pull1 (os_call cb_32 rfl (fun w s=>BForget_calls _ _ _ _ _ _ _ _ _ _ _ _ _ _ _ _ _ _ _ _  s (by split<;>omega)))) rfl rfl ?_;rintro _ _ ⟨rfl,rfl⟩;rw [hfg];refine ⟨[_,_],rfl,?_⟩
 refine rg_nil_then2 ?_
 refine R5 ?_
 exact px_ret1 rfl (v:=.bool _) rfl (fun _ s=>(Sat.gateMk (s.arr 13 [7,8,6,0,9,10,1,11,12,2,3,4,5]))) ⟨rfl,rfl⟩
theorem GBook_calls {w0 w:World} {l:List HProp} (A:GA) (C:Cfg) (xs:List Val) (hs:Sat w0 w ((Blk A.g (.cells #[.slice A.a xs.length A.c,.int .i64 C.epoch,.int .i64 C.committee,.int .i64 C.nodes,.int .i64 C.orphans,.int .i64 C.early,.int .i64 C.quota,.int .i64 C.peers,.int .i64 C.bytes,.int .i64 C.window,.int .i64 C.ban,.int .i64 C.decay,.pointer (some ⟨A.ck,0,none⟩),.pointer (some ⟨A.bk,0,none⟩),.pointer (some ⟨A.or,0,none⟩),.pointer (some ⟨A.ea,0,none⟩),.pointer (some ⟨A.pe,0,none⟩),.int .i64 0] 82 (0,0)))::l))  :
  Calls Tryz.prog 14 #[.pointer (some ⟨A.g,0,none⟩)] w (Ret w0 fun v l'=>v=.pointer (some ⟨A.bk,0,none⟩)∧l'=Blk A.g (.cells #[.slice A.a xs.length A.c,.int .i64 C.epoch,.int .i64 C.committee,.int .i64 C.nodes,.int .i64 C.orphans,.int .i64 C.early,.int .i64 C.quota,.int .i64 C.peers,.int .i64 C.bytes,.int .i64 C.window,.int .i64 C.ban,.int .i64 C.decay,.pointer (some ⟨A.ck,0,none⟩),.pointer (some ⟨A.bk,0,none⟩),.pointer (some ⟨A.or,0,none⟩),.pointer (some ⟨A.ea,0,none⟩),.pointer (some ⟨A.pe,0,none⟩),.int .i64 0] 82 (0,0))::l):=by
 refine calls_enter Tryz.func14 rfl rfl rfl hs ?_
 refine R7 ?_
 refine Z6c ?_
 refine Zi ?_
 refine R12 ?_
 exact Z6b
theorem GOrph_calls {w0 w:World} {l:List HProp} (A:GA) (C:Cfg) (xs:List Val) (hs:Sat w0 w ((Blk A.g (.cells #[.slice A.a xs.length A.c,.int .i64 C.epoch,.int .i64 C.committee,.int .i64 C.nodes,.int .i64 C.orphans,.int .i64 C.early,.int .i64 C.quota,.int .i64 C.peers,.int .i64 C.bytes,.int .i64 C.window,.int .i64 C.ban,.int .i64 C.decay,.pointer (some ⟨A.ck,0,none⟩),.pointer (some ⟨A.bk,0,none⟩),.pointer (some ⟨A.or,0,none⟩),.pointer (some ⟨A.ea,0,none⟩),.pointer (some ⟨A.pe,0,none⟩),.int .i64 0] 82 (0,0)))::l))  :
  Calls Tryz.prog 18 #[.pointer (some ⟨A.g,0,none⟩)] w (Ret w0 fun v l'=>v=.pointer (some ⟨A.or,0,none⟩)∧l'=Blk A.g (.cells #[.slice A.a xs.length A.c,.int .i64 C.epoch,.int .i64 C.committee,.int .i64 C.nodes,.int .i64 C.orphans,.int .i64 C.early,.int .i64 C.quota,.int .i64 C.peers,.int .i64 C.bytes,.int .i64 C.window,.int .i64 C.ban,.int .i64 C.decay,.pointer (some ⟨A.ck,0,none⟩),.pointer (some ⟨A.bk,0,none⟩),.pointer (some ⟨A.or,0,none⟩),.pointer (some ⟨A.ea,0,none⟩),.pointer (some ⟨A.pe,0,none⟩),.int .i64 0] 82 (0,0))::l):=by
 refine calls_enter Tryz.func18 rfl rfl rfl hs ?_
 refine R7 ?_
 refine Z6c ?_
 refine Zi ?_
 refine R12 ?_
 exact Z6b
theorem GEarly_calls {w0 w:World} {l:List HProp} (A:GA) (C:Cfg) (xs:List Val) (hs:Sat w0 w ((Blk A.g (.cells #[.slice A.a xs.length A.c,.int .i64 C.epoch,.int .i64 C.committee,.int .i64 C.nodes,.int .i64 C.orphans,.int .i64 C.early,.int .i64 C.quota,.int .i64 C.peers,.int .i64 C.bytes,.int .i64 C.window,.int .i64 C.ban,.int .i64 C.decay,.pointer (some ⟨A.ck,0,none⟩),.pointer (some ⟨A.bk,0,none⟩),.pointer (some ⟨A.or,0,none⟩),.pointer (some ⟨A.ea,0,none⟩),.pointer (some ⟨A.pe,0,none⟩),.int .i64 0] 82 (0,0)))::l))  :
  Calls Tryz.prog 55 #[.pointer (some ⟨A.g,0,none⟩)] w (Ret w0 fun v l'=>v=.pointer (some ⟨A.ea,0,none⟩)∧l'=Blk A.g (.cells #[.slice A.a xs.length A.c,.int .i64 C.epoch,.int .i64 C.committee,.int .i64 C.nodes,.int .i64 C.orphans,.int .i64 C.early,.int .i64 C.quota,.int .i64 C.peers,.int .i64 C.bytes,.int .i64 C.window,.int .i64 C.ban,.int .i64 C.decay,.pointer (some ⟨A.ck,0,none⟩),.pointer (some ⟨A.bk,0,none⟩),.pointer (some ⟨A.or,0,none⟩),.pointer (some ⟨A.ea,0,none⟩),.pointer (some ⟨A.pe,0,none⟩),.int .i64 0] 82 (0,0))::l):=by
 refine calls_enter Tryz.func55 rfl rfl rfl hs ?_
 refine R7 ?_
 refine Z6c ?_
 refine Zi ?_
 refine R12 ?_
 exact Z6b
theorem GPeers_calls {w0 w:World} {l:List HProp} (A:GA) (C:Cfg) (xs:List Val) (hs:Sat w0 w ((Blk A.g (.cells #[.slice A.a xs.length A.c,.int .i64 C.epoch,.int .i64 C.committee,.int .i64 C.nodes,.int .i64 C.orphans,.int .i64 C.early,.int .i64 C.quota,.int .i64 C.peers,.int .i64 C.bytes,.int .i64 C.window,.int .i64 C.ban,.int .i64 C.decay,.pointer (some ⟨A.ck,0,none⟩),.pointer (some ⟨A.bk,0,none⟩),.pointer (some ⟨A.or,0,none⟩),.pointer (some ⟨A.ea,0,none⟩),.pointer (some ⟨A.pe,0,none⟩),.int .i64 0] 82 (0,0)))::l))  :
  Calls Tryz.prog 57 #[.pointer (some ⟨A.g,0,none⟩)] w (Ret w0 fun v l'=>v=.pointer (some ⟨A.pe,0,none⟩)∧l'=Blk A.g (.cells #[.slice A.a xs.length A.c,.int .i64 C.epoch,.int .i64 C.committee,.int .i64 C.nodes,.int .i64 C.orphans,.int .i64 C.early,.int .i64 C.quota,.int .i64 C.peers,.int .i64 C.bytes,.int .i64 C.window,.int .i64 C.ban,.int .i64 C.decay,.pointer (some ⟨A.ck,0,none⟩),.pointer (some ⟨A.bk,0,none⟩),.pointer (some ⟨A.or,0,none⟩),.pointer (some ⟨A.ea,0,none⟩),.pointer (some ⟨A.pe,0,none⟩),.int .i64 0] 82 (0,0))::l):=by
 refine calls_enter Tryz.func57 rfl rfl rfl hs ?_
 refine R7 ?_
 refine Z6c ?_
 refine Zi ?_
 refine R12 ?_
 exact Z6b
theorem GHead_calls {w0 w:World} {l:List HProp} (A:GA) (C:Cfg) (xs:List Val) (now:Int) (t:TreeS) (tb:TabS) (K:List PItem) (hs:Sat w0 w ((GateObj A C xs now t tb K)::l)) (hne:0<t.nodes.length) :
  Calls Tryz.prog 17 #[.pointer (some ⟨A.g,0,none⟩)] w (Ret w0 fun v l'=>v=.agg (rootC (headW t.nodes (ownE xs (effT tb) t.nodes))).toArray∧l'=GateObj A C xs now t tb K::l):=by
 refine calls_enter Tryz.func17 rfl rfl rfl hs ?_
 refine R1 ?_
 refine Zp ?_;intro bx1
 refine R2 ?_
 refine cd_pull1 ?_
 refine Z1y ?_
 refine R2 ?_
 refine Z54 ?_
 refine ol_pull5 ?_
 refine ol_pull5 ?_
 refine ol_pull5 ?_
 refine Zbv ?_
 refine ol_pull13 ?_
 refine Z18 ?_
 exact px_rv1 rfl (rv_cella 0 ag_35 rfl rfl (rootC_take' _) (by simp [rootC_len])) (fun _ s=>(Sat.gateMk (s.arr 14 [4,5,6,1,2,3,7,8,9,10,11,12,13]))) ⟨rfl,rfl⟩
end Go.SL
