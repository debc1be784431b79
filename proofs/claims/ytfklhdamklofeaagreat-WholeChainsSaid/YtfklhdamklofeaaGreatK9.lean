import Derived.Shelf.SlIterI.Nil
import Derived.Shelf.SortM.SortNone
import Derived.Shelf.SortM.Plain
import Derived.Test.YtfklhdamklofeaaGreatProg
import Derived.Test.YtfklhdamklofeaaGreatK8
set_option linter.unusedVariables false
set_option linter.unusedSimpArgs false
set_option linter.unusedSectionVars false
set_option maxHeartbeats 1000000
set_option maxRecDepth 100000
namespace Go.SL
open Go.Proofs
theorem R15New_calls {w0 w:World} {l:List HProp} (most quota:Int) (hs:Sat w0 w (l)) (h1:1≤most∧most≤64) (h2:1≤quota∧quota≤64) :
  Calls Tryz.prog 63 #[.int .i64 most,.int .i64 quota] w (Ret w0 fun v l'=>∃ (p:Nat) (b:Bool),v=.tuple #[.pointer (some ⟨p,0,none⟩),.bool b]∧l'=l):=by
 refine calls_enter Tryz.func63 rfl rfl rfl hs ?_
 refine R8 ?_
 refine oq (op_build (L:=[_,_,_]) (vs:=[(1,.int _ _),(2,.int _ _)]) bB_217 rfl ⟨⟨rfl,rfl⟩,⟨rfl,rfl⟩,trivial⟩ rfl) ?_
 refine Z19 ?_;intro bx1
 refine R3 ?_
 refine ols 12 rfl ?_ ?_
 ·intro hb1 hp1
  refine Zv ?_
  refine Z6g ?_
  refine Zq ?_
  refine R1 ?_
  refine ols 16 rfl ?_ ?_
  ·intro hb2 hp2
   refine Z2a ?_
   refine Z7p ?_
   refine Z1w ?_
   refine R1 ?_
   refine ols 20 rfl ?_ ?_
   ·intro hb3 hp3
    refine Z2h ?_
    refine ol_q (wn_some rfl rfl rfl hb3 rfl) (op_le rfl rfl) rfl ?_
    refine Z25 ?_
    refine R5 ?_
    exact px_ret2 rfl (v1:=.pointer _) (v2:=.bool _) rfl rfl (fun _ s=>(s.del 0)) ⟨_,_,rfl,rfl⟩
   intro hb3 hp3
   exact absurd (of_decide_eq_false hb3) (by omega)
  intro hb2 hp2
  exact absurd (of_decide_eq_false hb2) (by omega)
 intro hb1 hp1
 exact Z6k
theorem R18New_calls {w0 w:World} {l:List HProp} (most ban decay:Int) (hs:Sat w0 w (l)) (h1:1≤most∧most≤16) (h2:1≤ban∧ban≤1048576) (h3:1≤decay∧decay≤1048576) :
  Calls Tryz.prog 64 #[.int .i64 most,.int .i64 ban,.int .i64 decay] w (Ret w0 fun v l'=>∃ (p:Nat) (b:Bool),v=.tuple #[.pointer (some ⟨p,0,none⟩),.bool b]∧l'=l):=by
 refine calls_enter Tryz.func64 rfl rfl rfl hs ?_
 refine R9 ?_
 refine oq (op_build (L:=[_,_,_,_,_,_]) (vs:=[(2,.int _ _),(3,.int _ _),(4,.int _ _)]) bB_219 rfl ⟨⟨rfl,rfl⟩,⟨rfl,rfl⟩,⟨rfl,rfl⟩,trivial⟩ rfl) ?_
 refine Z19 ?_;intro bx1
 refine R3 ?_
 refine ols 15 rfl ?_ ?_
 ·intro hb1 hp1
  refine Zv ?_
  refine Z6g ?_
  refine Zq ?_
  refine R1 ?_
  refine ols 19 rfl ?_ ?_
  ·intro hb2 hp2
   refine Z2a ?_
   refine Z7p ?_
   refine Z1w ?_
   refine R1 ?_
   refine ols 23 rfl ?_ ?_
   ·intro hb3 hp3
    refine Z2h ?_
    refine ol_q (wn_some rfl rfl rfl hb3 rfl) (op_le rfl rfl) rfl ?_
    refine Z25 ?_
    refine R1 ?_
    refine ols 27 rfl ?_ ?_
    ·intro hb4 hp4
     refine ol_q (wn_some rfl rfl rfl hb4 rfl) (op_move (v:=.int _ _) rfl) rfl ?_
     refine ol_q (wn_some rfl rfl rfl hb4 rfl) (op_ge rfl rfl) rfl ?_
     refine oq (op_pick_t (v:=.bool _) rfl hb4 rfl) ?_
     refine R1 ?_
     refine ols 31 rfl ?_ ?_
     ·intro hb5 hp5
      refine ol_q (wn_some rfl rfl rfl hb5 rfl) (op_move (v:=.int _ _) rfl) rfl ?_
      refine ol_q (wn_some rfl rfl rfl hb5 rfl) (op_le rfl rfl) rfl ?_
      refine Z6p ?_
      refine R5 ?_
      exact px_ret2 rfl (v1:=.pointer _) (v2:=.bool _) rfl rfl (fun _ s=>(s.del 0)) ⟨_,_,rfl,rfl⟩
     intro hb5 hp5
     exact absurd (of_decide_eq_false hb5) (by omega)
    intro hb4 hp4
    exact absurd (of_decide_eq_false hb4) (by omega)
   intro hb3 hp3
   exact absurd (of_decide_eq_false hb3) (by omega)
  intro hb2 hp2
  exact absurd (of_decide_eq_false hb2) (by omega)
 intro hb1 hp1
 exact Z6k
theorem R09New_calls {w0 w:World} {l:List HProp} (win:Int) (hs:Sat w0 w (l)) (h:1≤win∧win≤64) :
  Calls Tryz.prog 65 #[.int .i64 win] w (Ret w0 fun v l'=>∃ p:Nat,v=.pointer (some ⟨p,0,none⟩)∧l'=l):=by
 refine calls_enter Tryz.func65 rfl rfl rfl hs ?_
 refine R10 ?_
 refine Z4 ?_ ?_
 ·intro hb1 hp1
  exact Z58
 intro hb1 hp1
 refine R8 ?_
 refine Z4 ?_ ?_
 ·intro hb2 hp2
  exact Z5g
 intro hb2 hp2
 refine R4 ?_
 refine oq (op_build (L:=[_,_]) (vs:=[(1,.int _ _)]) bB_221 rfl ⟨⟨rfl,rfl⟩,trivial⟩ rfl) ?_
 refine Z19 ?_;intro bx1
 refine R4 ?_
 exact px_ret1 rfl (v:=.pointer _) rfl (fun _ s=>(s.del 0)) ⟨_,rfl,rfl⟩
theorem R19NewN_calls {w0 w:World} {l:List HProp} (ao:Option Addr) (c:Nat) (xs:List Val) (n1 n2 n3 n4 n5 n6 n7 n8 n9 n10 n11:Int) (hs:Sat w0 w (l)) (hg:goodC ⟨⟨ao,xs.length,c⟩,n1,n2,n3,n4,n5,n6,n7,n8,n9,n10,n11⟩ xs=false) (hr:Rds w0 l encVal ao xs) (hxl:xs.length≤1000000) (hq:∀ y∈xs,I64 y.stake∧y.key.length≤maxLen) :
  Calls Tryz.prog 23 #[.agg (cfgC ⟨⟨ao,xs.length,c⟩,n1,n2,n3,n4,n5,n6,n7,n8,n9,n10,n11⟩).toArray] w (Ret w0 fun v l'=>v=.tuple #[.pointer none,.bool false]∧l'=l):=by
 refine calls_enter Tryz.func23 rfl rfl rfl hs ?_
 refine Z5 ?_;intro bx1
 refine R6 ?_
 refine oi (os_call cb_62 rfl (fun w s=>RBNewN_calls _ _ _ _ _ _ _ _ _ _ _ _ _ _  s (by assumption) (hr.cons _) (by omega) (by assumption))) ?_;rintro _ _ ⟨rfl,rfl⟩
 refine R13 ?_
 refine Z35 ?_
 refine R7 ?_
 exact px_ret2 rfl (v1:=.pointer _) (v2:=.bool _) rfl rfl (fun _ s=>(s.del 0)) ⟨rfl,rfl⟩
theorem R19NewS_calls {w0 w:World} {l:List HProp} (ao:Option Addr) (c:Nat) (xs:List Val) (n1 n2 n3 n4 n5 n6 n7 n8 n9 n10 n11:Int) (hs:Sat w0 w (l)) (hg:goodC ⟨⟨ao,xs.length,c⟩,n1,n2,n3,n4,n5,n6,n7,n8,n9,n10,n11⟩ xs=true) (hr:Rds w0 l encVal ao xs) (hq:∀ y∈xs,I64 y.stake∧y.key.length≤maxLen) :
  Calls Tryz.prog 23 #[.agg (cfgC ⟨⟨ao,xs.length,c⟩,n1,n2,n3,n4,n5,n6,n7,n8,n9,n10,n11⟩).toArray] w (Ret w0 fun v l'=>∃ p:Nat,v=.tuple #[.pointer (some ⟨p,0,none⟩),.bool true]∧l'=l):=by
 have hbd:=goodC_bd hg
 (try dsimp only at hbd)
 have hxl:=hbd.2.2.1.2
 refine calls_enter Tryz.func23 rfl rfl rfl hs ?_
 refine Z5 ?_;intro bx1
 refine R6 ?_
 refine oi (os_call cb_62 rfl (fun w s=>RBNewS_calls _ _ _ _ _ _ _ _ _ _ _ _ _ _  s (by assumption) (hr.cons _) (by assumption))) ?_;rintro _ _ ⟨pm1,pr1,pq1,rfl,rfl⟩
 refine R13 ?_
 refine Z23 ?_
 refine R4 ?_
 refine oq (op_ld 3 sc_3 rfl rfl (show (cfgC _).toArray[4]? = some (.int .i64 n4) from cfgC_a4 _)) ?_
 refine R1 ?_
 refine oq (op_ld 3 sc_3 rfl rfl (show (cfgC _).toArray[6]? = some (.int .i64 n6) from cfgC_a6 _)) ?_
 refine oi (os_call cb_63 rfl (fun w s=>R15New_calls _ _  s (by omega) (by omega))) ?_;rintro _ _ ⟨rp2,rb2,rfl,rfl⟩
 refine R9 ?_
 refine oq (op_ld 3 sc_3 rfl rfl (show (cfgC _).toArray[5]? = some (.int .i64 n5) from cfgC_a5 _)) ?_
 refine R1 ?_
 refine oq (op_ld 3 sc_3 rfl rfl (show (cfgC _).toArray[6]? = some (.int .i64 n6) from cfgC_a6 _)) ?_
 refine oi (os_call cb_63 rfl (fun w s=>R15New_calls _ _  s (by omega) (by omega))) ?_;rintro _ _ ⟨rp3,rb3,rfl,rfl⟩
 refine R9 ?_
 refine oq (op_ld 3 sc_3 rfl rfl (show (cfgC _).toArray[7]? = some (.int .i64 n7) from cfgC_a7 _)) ?_
 refine R1 ?_
 refine oq (op_ld 3 sc_3 rfl rfl (show (cfgC _).toArray[10]? = some (.int .i64 n10) from cfgC_a10 _)) ?_
 refine R1 ?_
 refine oq (op_ld 3 sc_3 rfl rfl (show (cfgC _).toArray[11]? = some (.int .i64 n11) from cfgC_a11 _)) ?_
 refine oi (os_call cb_64 rfl (fun w s=>R18New_calls _ _ _  s (by omega) (by omega) (by omega))) ?_;rintro _ _ ⟨rp4,rb4,rfl,rfl⟩
 refine R8 ?_
 refine cd_drawe (M:=[]) mx [3,9,11] ?_
 refine e_q 0 rfl (wn_none rfl) (op_lda (L:=cfgC _) 3 ag_24 rfl rfl (cfgC_ta _) (by simp [cfgC_len])) ?_
 refine e_q 1 rfl (wn_none rfl) (op_field fld_24_9 rfl) ?_
 refine e_q 2 rfl (wn_none rfl) (op_ld 3 sc_3 rfl rfl (show (cfgC _).toArray[9]? = some (.int .i64 n9) from cfgC_a9 _)) ?_
 refine e_q 4 rfl (wn_none rfl) (op_move (v:=.pointer _) rfl) ?_
 refine e_q 5 rfl (wn_none rfl) (op_move (v:=.pointer _) rfl) ?_
 refine e_q 6 rfl (wn_none rfl) (op_move (v:=.pointer _) rfl) ?_
 refine e_q 7 rfl (wn_none rfl) (op_move (v:=.pointer _) rfl) ?_
 refine e_q 10 rfl (wn_none rfl) (op_lda (L:=cfgC _) 3 ag_24 rfl rfl (cfgC_ta _) (by simp [cfgC_len])) ?_
 refine Z3t ?_
 refine ei_i rfl rfl (wn_none rfl) (os_call cb_65 rfl (fun w s=>R09New_calls _  s (by omega))) rfl ?_;rintro _ _ ⟨rp5,rfl,rfl⟩;refine ⟨[],rfl,?_⟩
 refine e_q 8 rfl (wn_none rfl) (op_build  (vs:=[(0,.agg _),(1,.pointer _),(2,.pointer _),(3,.pointer _),(4,.pointer _),(5,.pointer _)]) bB_144 rfl ⟨⟨rfl,rfl⟩,⟨rfl,rfl⟩,⟨rfl,rfl⟩,⟨rfl,rfl⟩,⟨rfl,rfl⟩,⟨rfl,rfl⟩,trivial⟩ rfl) ?_
 refine et_2 (i1:=9) (i2:=11) (by kernel_rfl) ?_ ?_
 ·
  refine ei_i rfl rfl (wn_none rfl) (os_boxa rfl) rfl ?_;rintro _ _ ⟨bx2,rfl,rfl⟩;refine ⟨[_],rfl,?_⟩
  refine Z2b ?_
  refine ei_i rfl rfl (wn_none rfl) (os_call cb_66 rfl (fun w s=>RGood_calls _ _ _ _ _ _ _ _ _ _ _ _ _ _  s (((((hr.cons _).cons _).cons _).cons _).cons _) (by first | omega | (simp;done) | (simp;omega)) (by assumption))) rfl ?_;rintro _ _ ⟨rfl,rfl⟩;refine ⟨[_],rfl,?_⟩
  refine e_q 12 rfl (wn_none rfl) (op_assign (v:=.pointer _) rfl) ?_
  refine e_q 13 rfl (wn_none rfl) (op_assign (v:=.bool _) rfl) ?_
  refine Z9 ?_
  exact px_ret2 rfl (v1:=.pointer _) (v2:=.bool _) rfl rfl (fun _ s=>(s.arr 5 [])) ⟨_,by rw [hg],rfl⟩
 refine ei_i rfl rfl (wn_none rfl) (os_call cb_66 rfl (fun w s=>RGood_calls _ _ _ _ _ _ _ _ _ _ _ _ _ _  s ((((hr.cons _).cons _).cons _).cons _) (by first | omega | (simp;done) | (simp;omega)) (by assumption))) rfl ?_;rintro _ _ ⟨rfl,rfl⟩;refine ⟨[],rfl,?_⟩
 refine Z15 ?_
 refine ei_i rfl rfl (wn_none rfl) (os_boxa rfl) rfl ?_;rintro _ _ ⟨bx3,rfl,rfl⟩;refine ⟨[_],rfl,?_⟩
 refine e_q 12 rfl (wn_none rfl) (op_assign (v:=.pointer _) rfl) ?_
 refine e_q 13 rfl (wn_none rfl) (op_assign (v:=.bool _) rfl) ?_
 refine Z9 ?_
 exact px_ret2 rfl (v1:=.pointer _) (v2:=.bool _) rfl rfl (fun _ s=>(s.arr 5 [])) ⟨_,by rw [hg],rfl⟩
theorem gok_of {V:SlV} {a0 a1 a2 a3 a4 a5 a6 a7 a8 a9 a10:Int} {xs:List Val} (h:goodC ⟨V,a0,a1,a2,a3,a4,a5,a6,a7,a8,a9,a10⟩ xs=true):GOK ⟨V,a0,a1,a2,a3,a4,a5,a6,a7,a8,a9,a10⟩ xs:=by
 have hb:=goodC_bd h
 obtain ⟨⟨h0,h1,h2,h3,h4,h5⟩,⟨h6,h7,h8,h9,h10⟩,h11,h12⟩:=hb
 exact ⟨h0,h1,h2,h3,h4,h5,h6,h7,h8,h9,h10,h11,h12,goodC_stk h⟩
def rootG (q:Cfg) (xs:List Val):Root:=shaM ([116,111,108,108,101,114]++bytesC q xs)
theorem GNewN_calls {w0 w:World} {l:List HProp} (ao:Option Addr) (c:Nat) (xs:List Val) (n1 n2 n3 n4 n5 n6 n7 n8 n9 n10 n11:Int) (hs:Sat w0 w (l)) (hg:goodC ⟨⟨ao,xs.length,c⟩,n1,n2,n3,n4,n5,n6,n7,n8,n9,n10,n11⟩ xs=false) (hr:Rds w0 l encVal ao xs) (hxl:xs.length≤1000000) (hq:∀ y∈xs,I64 y.stake∧y.key.length≤maxLen) :
  Calls Tryz.prog 20 #[.agg (cfgC ⟨⟨ao,xs.length,c⟩,n1,n2,n3,n4,n5,n6,n7,n8,n9,n10,n11⟩).toArray] w (Ret w0 fun v l'=>v=.tuple #[.pointer none,.int .i64 1]∧l'=l):=by
 refine calls_enter Tryz.func20 rfl rfl rfl hs ?_
 refine Z5 ?_;intro bx1
 refine R7 ?_
 refine Zbt ?_
 refine Z6 ?_ ?_
 ·intro hb1 hp1
  refine R7 ?_
  exact px_ret2 rfl (v1:=.pointer _) (v2:=.int _ _) rfl rfl (fun _ s=>(s.del 0)) ⟨rfl,rfl⟩
 intro hb1 hp1
 exact absurd hb1 (by rw [hg];simp)
theorem GNewS_calls {w0 w:World} {l:List HProp} (ao:Option Addr) (c:Nat) (xs:List Val) (n1 n2 n3 n4 n5 n6 n7 n8 n9 n10 n11:Int) (hs:Sat w0 w (l)) (hg:goodC ⟨⟨ao,xs.length,c⟩,n1,n2,n3,n4,n5,n6,n7,n8,n9,n10,n11⟩ xs=true) (hr:Rds w0 l encVal ao xs) (hq:∀ y∈xs,I64 y.stake∧y.key.length≤maxLen) :
  Calls Tryz.prog 20 #[.agg (cfgC ⟨⟨ao,xs.length,c⟩,n1,n2,n3,n4,n5,n6,n7,n8,n9,n10,n11⟩).toArray] w (Ret w0 fun v l'=>∃ A:GA,v=.tuple #[.pointer (some ⟨A.g,0,none⟩),.int .i64 0]∧l'=GateObj A ⟨⟨ao,xs.length,c⟩,n1,n2,n3,n4,n5,n6,n7,n8,n9,n10,n11⟩ xs 0 (TreeS.new (rootG ⟨⟨ao,xs.length,c⟩,n1,n2,n3,n4,n5,n6,n7,n8,n9,n10,n11⟩ xs) 0 n3) (TabS.new xs.length n1) []::l):=by
 have hbd:=goodC_bd hg
 (try dsimp only at hbd)
 have hxl:=hbd.2.2.1.2
 refine calls_enter Tryz.func20 rfl rfl rfl hs ?_
 refine Z5 ?_;intro bx1
 refine R7 ?_
 refine oi (os_call cb_44 rfl (fun w s=>Good_calls _ _ _ _ _ _ _ _ _ _ _ _ _ _  s (hr.cons _) (by omega))) ?_;rintro _ l ⟨rfl,rfl⟩
 refine Z6 ?_ ?_
 ·intro hb1 hp1
  exact absurd hb1 (by rw [hg];simp)
 intro hb1 hp1
 refine R3 ?_
 refine oi (os_bslice (E:=encVal) [] (ys:=([]:List Val)) sB_22 zv_64 rfl rfl rfl rfl (by decide)) ?_;rintro _ _ ⟨ao1,rfl,rfl⟩
 refine R1 ?_
 refine oq (op_ld 1 sc_22 rfl rfl (show (cfgC _).toArray[0]? = some (.slice ao xs.length c) from cfgC_a0 _)) ?_
 refine oi (os_append (E:=encVal) rfl sB_22 zv_64 rfl rfl rfl (fun w s=>((hr.cons _).cons _) [] w s) rfl (by simp;omega) (by unfold maxLen;simp;omega)) ?_;rintro _ _ ⟨ao2,ac2,rfl,rfl⟩;rw [List.nil_append]
 refine R1 ?_
 refine Z2 ?_
 refine oN (os_store (v:=.slice _ _ _) sc_22 rfl rfl rfl (by simp [cfgC_len]) (Free.zero _) (cfgC_s0 _ ⟨_,_,_⟩)) ?_;rintro _ _ ⟨rfl,rfl⟩
 refine R3 ?_
 refine cd_drawe (M:=[]) mx [1,6,11,18,20,21] ?_
 refine e_q 0 rfl (wn_none rfl) (op_lda (L:=cfgC _) 0 ag_24 rfl rfl (cfgC_ta _) (by simp [cfgC_len])) ?_
 refine e_q 2 rfl (wn_none rfl) (op_field fld_24_4 rfl) ?_
 refine e_q 3 rfl (wn_none rfl) (op_ld 0 sc_3 rfl rfl (show (cfgC _).toArray[4]? = some (.int .i64 n4) from cfgC_a4 _)) ?_
 refine e_q 4 rfl (wn_none rfl) (op_field fld_24_6 rfl) ?_
 refine e_q 5 rfl (wn_none rfl) (op_ld 0 sc_3 rfl rfl (show (cfgC _).toArray[6]? = some (.int .i64 n6) from cfgC_a6 _)) ?_
 refine e_q 7 rfl (wn_none rfl) (op_field fld_24_5 rfl) ?_
 refine e_q 8 rfl (wn_none rfl) (op_ld 0 sc_3 rfl rfl (show (cfgC _).toArray[5]? = some (.int .i64 n5) from cfgC_a5 _)) ?_
 refine e_q 9 rfl (wn_none rfl) (op_field fld_24_6 rfl) ?_
 refine e_q 10 rfl (wn_none rfl) (op_ld 0 sc_3 rfl rfl (show (cfgC _).toArray[6]? = some (.int .i64 n6) from cfgC_a6 _)) ?_
 refine e_q 12 rfl (wn_none rfl) (op_field fld_24_7 rfl) ?_
 refine e_q 13 rfl (wn_none rfl) (op_ld 0 sc_3 rfl rfl (show (cfgC _).toArray[7]? = some (.int .i64 n7) from cfgC_a7 _)) ?_
 refine e_q 14 rfl (wn_none rfl) (op_field fld_24_10 rfl) ?_
 refine e_q 15 rfl (wn_none rfl) (op_ld 0 sc_3 rfl rfl (show (cfgC _).toArray[10]? = some (.int .i64 n10) from cfgC_a10 _)) ?_
 refine e_q 16 rfl (wn_none rfl) (op_field fld_24_11 rfl) ?_
 refine e_q 17 rfl (wn_none rfl) (op_ld 0 sc_3 rfl rfl (show (cfgC _).toArray[11]? = some (.int .i64 n11) from cfgC_a11 _)) ?_
 refine et_2 (i1:=1) (i2:=20) (by kernel_rfl) ?_ ?_
 ·
  refine ei_i rfl rfl (wn_none rfl) (os_call cb_45 rfl (fun w s=>BNewS_calls _ _ _ _ _ _ _ _ _ _ _ _ _ _  s hg (rds_row 1 rfl rfl))) rfl ?_;rintro _ _ ⟨pb2,pt2,pw2,pv2,rfl,rfl⟩;refine ⟨[_,_,_,_],rfl,?_⟩
  refine et_2 (i1:=6) (i2:=20) (by kernel_rfl) ?_ ?_
  ·
   refine ei_i rfl rfl (wn_none rfl) (os_call cb_46 rfl (fun w s=>OrNew_calls _ _  s (by omega) (by omega))) rfl ?_;rintro _ _ ⟨po3,pp3,rfl,rfl⟩;refine ⟨[_,_,_,_,_,_],rfl,?_⟩
   refine et_2 (i1:=11) (i2:=20) (by kernel_rfl) ?_ ?_
   ·
    refine ei_i rfl rfl (wn_none rfl) (os_call cb_47 rfl (fun w s=>EaNew_calls _ _  s (by omega) (by omega))) rfl ?_;rintro _ _ ⟨po4,pp4,rfl,rfl⟩;refine ⟨[_,_,_,_,_,_,_,_],rfl,?_⟩
    refine et_2 (i1:=18) (i2:=20) (by kernel_rfl) ?_ ?_
    ·
     refine ei_i rfl rfl (wn_none rfl) (os_call cb_48 rfl (fun w s=>PeNew_calls _ _ _  s (by omega) (by omega) (by omega))) rfl ?_;rintro _ _ ⟨pe5,mb5,rfl,rfl⟩;refine ⟨[_,_,_,_,_,_,_,_,_,_],rfl,?_⟩
     refine Z77 ?_
     refine et_1 (i:=20) (by kernel_rfl) ?_
     refine ei_i rfl rfl (wn_none rfl) (os_alloc zB_80 rfl) rfl ?_;rintro _ _ ⟨bx2,rfl,rfl⟩;refine ⟨[_,_,_,_,_,_,_,_,_,_,_],rfl,?_⟩
     refine et_1 (i:=21) (by kernel_rfl) ?_
     refine ei_iN rfl rfl (wn_none rfl) (os_storea (L':=[_,_,_,_]) ag_80 rfl rfl rfl (by simp [Value.oneCell']) rfl (Free.zero _) rfl) ?_;rintro _ _ ⟨rfl,rfl⟩;refine ⟨[_,_,_,_,_,_,_,_,_,_,_],rfl,?_⟩
     refine Z9 ?_
     refine Z78 ?_
     dsimp only [List.take_succ_cons,List.take_zero,List.drop_succ_cons,List.drop_zero]
     refine R2 ?_
     refine Z79 ?_
     refine Z7a ?_;intro pc6
     refine Z7b ?_
     refine Z7c ?_
     refine rg_tail1 ?_
     refine Z19 ?_;intro bx3
     refine R5 ?_
     exact px_ret2 rfl (v1:=.pointer _) (v2:=.int _ _) (l':=GateObj (⟨bx3,pc6,pb2,pt2,pw2,pv2,po3,pp3,po4,pp4,pe5,mb5,ao2,ac2⟩:GA) ⟨⟨ao,xs.length,c⟩,n1,n2,n3,n4,n5,n6,n7,n8,n9,n10,n11⟩ xs 0 (TreeS.new (rootG ⟨⟨ao,xs.length,c⟩,n1,n2,n3,n4,n5,n6,n7,n8,n9,n10,n11⟩ xs) 0 n3) (TabS.new xs.length n1) []::l) rfl rfl (fun _ s=>Sat.gateMk (s.arr 15 [0,14,1,9,10,11,12,7,8,5,6,3,4])) ⟨_,rfl,rfl⟩
    refine ei_i rfl rfl (wn_none rfl) (os_alloc zB_80 rfl) rfl ?_;rintro _ _ ⟨bx4,rfl,rfl⟩;refine ⟨[_,_,_,_,_,_,_,_,_],rfl,?_⟩
    refine et_1 (i:=18) (by kernel_rfl) ?_
    refine Z8t ?_;intro pe7 mb7
    refine Z77 ?_
    refine et_1 (i:=21) (by kernel_rfl) ?_
    refine ei_iN rfl rfl (wn_none rfl) (os_pull2 (os_storea (L':=[_,_,_,_]) ag_80 rfl rfl rfl (by simp [Value.oneCell']) rfl (Free.zero _) rfl)) ?_;rintro _ _ ⟨rfl,rfl⟩;refine ⟨[_,_,_,_,_,_,_,_,_,_,_],rfl,?_⟩
    refine Z9 ?_
    refine Z78 ?_
    dsimp only [List.take_succ_cons,List.take_zero,List.drop_succ_cons,List.drop_zero]
    refine R2 ?_
    refine Z79 ?_
    refine Z7a ?_;intro pc8
    refine Z7b ?_
    refine Z7c ?_
    refine rg_tail1 ?_
    refine Z19 ?_;intro bx5
    refine R5 ?_
    exact px_ret2 rfl (v1:=.pointer _) (v2:=.int _ _) (l':=GateObj (⟨bx5,pc8,pb2,pt2,pw2,pv2,po3,pp3,po4,pp4,pe7,mb7,ao2,ac2⟩:GA) ⟨⟨ao,xs.length,c⟩,n1,n2,n3,n4,n5,n6,n7,n8,n9,n10,n11⟩ xs 0 (TreeS.new (rootG ⟨⟨ao,xs.length,c⟩,n1,n2,n3,n4,n5,n6,n7,n8,n9,n10,n11⟩ xs) 0 n3) (TabS.new xs.length n1) []::l) rfl rfl (fun _ s=>Sat.gateMk (s.arr 15 [0,14,1,9,10,11,12,7,8,5,6,3,4])) ⟨_,rfl,rfl⟩
   refine ei_i rfl rfl (wn_none rfl) (os_alloc zB_80 rfl) rfl ?_;rintro _ _ ⟨bx6,rfl,rfl⟩;refine ⟨[_,_,_,_,_,_,_],rfl,?_⟩
   refine Z2b ?_
   refine Za2 ?_;intro po9 pp9
   refine et_1 (i:=18) (by kernel_rfl) ?_
   refine Z8t ?_;intro pe10 mb10
   refine Z77 ?_
   refine et_1 (i:=21) (by kernel_rfl) ?_
   refine ei_iN rfl rfl (wn_none rfl) (os_pull4 (os_storea (L':=[_,_,_,_]) ag_80 rfl rfl rfl (by simp [Value.oneCell']) rfl (Free.zero _) rfl)) ?_;rintro _ _ ⟨rfl,rfl⟩;refine ⟨[_,_,_,_,_,_,_,_,_,_,_],rfl,?_⟩
   refine Z9 ?_
   refine Z78 ?_
   dsimp only [List.take_succ_cons,List.take_zero,List.drop_succ_cons,List.drop_zero]
   refine R2 ?_
   refine Z79 ?_
   refine Z7a ?_;intro pc11
   refine Z7b ?_
   refine Z7c ?_
   refine rg_tail1 ?_
   refine Z19 ?_;intro bx7
   refine R5 ?_
   exact px_ret2 rfl (v1:=.pointer _) (v2:=.int _ _) (l':=GateObj (⟨bx7,pc11,pb2,pt2,pw2,pv2,po3,pp3,po9,pp9,pe10,mb10,ao2,ac2⟩:GA) ⟨⟨ao,xs.length,c⟩,n1,n2,n3,n4,n5,n6,n7,n8,n9,n10,n11⟩ xs 0 (TreeS.new (rootG ⟨⟨ao,xs.length,c⟩,n1,n2,n3,n4,n5,n6,n7,n8,n9,n10,n11⟩ xs) 0 n3) (TabS.new xs.length n1) []::l) rfl rfl (fun _ s=>Sat.gateMk (s.arr 15 [0,14,1,9,10,11,12,7,8,5,6,3,4])) ⟨_,rfl,rfl⟩
  refine ei_i rfl rfl (wn_none rfl) (os_alloc zB_80 rfl) rfl ?_;rintro _ _ ⟨bx8,rfl,rfl⟩;refine ⟨[_,_,_,_,_],rfl,?_⟩
  refine Zs ?_
  refine ei_i rfl rfl (wn_none rfl) (os_call cb_46 rfl (fun w s=>OrNew_calls _ _  s (by omega) (by omega))) rfl ?_;rintro _ _ ⟨po12,pp12,rfl,rfl⟩;refine ⟨[_,_,_,_,_,_,_],rfl,?_⟩
  refine Z2b ?_
  refine Za2 ?_;intro po13 pp13
  refine et_1 (i:=18) (by kernel_rfl) ?_
  refine Z8t ?_;intro pe14 mb14
  refine Z77 ?_
  refine et_1 (i:=21) (by kernel_rfl) ?_
  refine ei_iN rfl rfl (wn_none rfl) (os_pull6 (os_storea (L':=[_,_,_,_]) ag_80 rfl rfl rfl (by simp [Value.oneCell']) rfl (Free.zero _) rfl)) ?_;rintro _ _ ⟨rfl,rfl⟩;refine ⟨[_,_,_,_,_,_,_,_,_,_,_],rfl,?_⟩
  refine Z9 ?_
  refine Z78 ?_
  dsimp only [List.take_succ_cons,List.take_zero,List.drop_succ_cons,List.drop_zero]
  refine R2 ?_
  refine Z79 ?_
  refine Z7a ?_;intro pc15
  refine Z7b ?_
  refine Z7c ?_
  refine rg_tail1 ?_
  refine Z19 ?_;intro bx9
  refine R5 ?_
  exact px_ret2 rfl (v1:=.pointer _) (v2:=.int _ _) (l':=GateObj (⟨bx9,pc15,pb2,pt2,pw2,pv2,po12,pp12,po13,pp13,pe14,mb14,ao2,ac2⟩:GA) ⟨⟨ao,xs.length,c⟩,n1,n2,n3,n4,n5,n6,n7,n8,n9,n10,n11⟩ xs 0 (TreeS.new (rootG ⟨⟨ao,xs.length,c⟩,n1,n2,n3,n4,n5,n6,n7,n8,n9,n10,n11⟩ xs) 0 n3) (TabS.new xs.length n1) []::l) rfl rfl (fun _ s=>Sat.gateMk (s.arr 15 [0,14,1,9,10,11,12,7,8,5,6,3,4])) ⟨_,rfl,rfl⟩
 refine ei_i rfl rfl (wn_none rfl) (os_alloc zB_80 rfl) rfl ?_;rintro _ _ ⟨bx10,rfl,rfl⟩;refine ⟨[_],rfl,?_⟩
 refine Z39 ?_
 refine ei_i rfl rfl (wn_none rfl) (os_call cb_45 rfl (fun w s=>BNewS_calls _ _ _ _ _ _ _ _ _ _ _ _ _ _  s hg (rds_row 2 rfl rfl))) rfl ?_;rintro _ _ ⟨pb16,pt16,pw16,pv16,rfl,rfl⟩;refine ⟨[_,_,_,_,_],rfl,?_⟩
 refine Zs ?_
 refine ei_i rfl rfl (wn_none rfl) (os_call cb_46 rfl (fun w s=>OrNew_calls _ _  s (by omega) (by omega))) rfl ?_;rintro _ _ ⟨po17,pp17,rfl,rfl⟩;refine ⟨[_,_,_,_,_,_,_],rfl,?_⟩
 refine Z2b ?_
 refine Za2 ?_;intro po18 pp18
 refine et_1 (i:=18) (by kernel_rfl) ?_
 refine Z8t ?_;intro pe19 mb19
 refine Z77 ?_
 refine et_1 (i:=21) (by kernel_rfl) ?_
 refine ei_iN rfl rfl (wn_none rfl) (os_pull10 (os_storea (L':=[_,_,_,_]) ag_80 rfl rfl rfl (by simp [Value.oneCell']) rfl (Free.zero _) rfl)) ?_;rintro _ _ ⟨rfl,rfl⟩;refine ⟨[_,_,_,_,_,_,_,_,_,_,_],rfl,?_⟩
 refine Z9 ?_
 refine Z78 ?_
 dsimp only [List.take_succ_cons,List.take_zero,List.drop_succ_cons,List.drop_zero]
 refine R2 ?_
 refine Z79 ?_
 refine Z7a ?_;intro pc20
 refine Z7b ?_
 refine Z7c ?_
 refine rg_tail1 ?_
 refine Z19 ?_;intro bx11
 refine R5 ?_
 exact px_ret2 rfl (v1:=.pointer _) (v2:=.int _ _) (l':=GateObj (⟨bx11,pc20,pb16,pt16,pw16,pv16,po17,pp17,po18,pp18,pe19,mb19,ao2,ac2⟩:GA) ⟨⟨ao,xs.length,c⟩,n1,n2,n3,n4,n5,n6,n7,n8,n9,n10,n11⟩ xs 0 (TreeS.new (rootG ⟨⟨ao,xs.length,c⟩,n1,n2,n3,n4,n5,n6,n7,n8,n9,n10,n11⟩ xs) 0 n3) (TabS.new xs.length n1) []::l) rfl rfl (fun _ s=>Sat.gateMk (s.arr 15 [0,14,1,9,10,11,12,7,8,5,6,3,4])) ⟨_,rfl,rfl⟩
theorem BegunN_calls {w0 w:World} {l:List HProp} (ao:Option Addr) (c:Nat) (xs:List Val) (n1 n2 n3 n4 n5 n6 n7 n8 n9 n10 n11:Int) (hs:Sat w0 w (l)) (hg:goodC ⟨⟨ao,xs.length,c⟩,n1,n2,n3,n4,n5,n6,n7,n8,n9,n10,n11⟩ xs=false) (hr:Rds w0 l encVal ao xs) (hxl:xs.length≤1000000) (hq:∀ y∈xs,I64 y.stake∧y.key.length≤maxLen) :
  Calls Tryz.prog 6 #[.agg (cfgC ⟨⟨ao,xs.length,c⟩,n1,n2,n3,n4,n5,n6,n7,n8,n9,n10,n11⟩).toArray] w (Ret w0 fun v l'=>v=.tuple #[.agg #[.pointer none,.pointer none],.bool false]∧l'=l):=by
 refine calls_enter Tryz.func6 rfl rfl rfl hs ?_
 refine Z5 ?_;intro bx1
 refine oi (os_alloc zB_31 rfl) ?_;rintro _ _ ⟨bx2,rfl,rfl⟩
 refine R5 ?_
 refine oi (os_call cb_20 rfl (fun w s=>GNewN_calls _ _ _ _ _ _ _ _ _ _ _ _ _ _  s (by assumption) ((hr.cons _).cons _) (by omega) (by assumption))) ?_;rintro _ _ ⟨rfl,rfl⟩
 refine R9 ?_
 refine oi (os_call cb_23 rfl (fun w s=>R19NewN_calls _ _ _ _ _ _ _ _ _ _ _ _ _ _  s (by assumption) ((hr.cons _).cons _) (by omega) (by assumption))) ?_;rintro _ _ ⟨rfl,rfl⟩
 refine R10 ?_
 refine oq (op_build (L:=[_,_]) (vs:=[(0,.pointer _),(1,.pointer _)]) bB_31 rfl ⟨⟨rfl,rfl⟩,⟨rfl,rfl⟩,trivial⟩ rfl) ?_
 refine R2 ?_
 refine Z6d ?_
 refine Z1n ?_
 refine Z8u ?_
 refine R4 ?_
 exact px_rv2 rfl (rv_cella (L:=[.pointer _,.pointer _]) 0 ag_31 rfl rfl rfl (by simp)) (rv_tmp (v:=.bool _) rfl) (fun _ s=>((s.del 1).del 0)) ⟨rfl,rfl⟩
theorem BegunS_calls {w0 w:World} {l:List HProp} (ao:Option Addr) (c:Nat) (xs:List Val) (n1 n2 n3 n4 n5 n6 n7 n8 n9 n10 n11:Int) (hs:Sat w0 w (l)) (hg:goodC ⟨⟨ao,xs.length,c⟩,n1,n2,n3,n4,n5,n6,n7,n8,n9,n10,n11⟩ xs=true) (hr:Rds w0 l encVal ao xs) (hq:∀ y∈xs,I64 y.stake∧y.key.length≤maxLen) :
  Calls Tryz.prog 6 #[.agg (cfgC ⟨⟨ao,xs.length,c⟩,n1,n2,n3,n4,n5,n6,n7,n8,n9,n10,n11⟩).toArray] w (Ret w0 fun v l'=>∃ (A:GA) (p:Nat),v=.tuple #[.agg #[.pointer (some ⟨A.g,0,none⟩),.pointer (some ⟨p,0,none⟩)],.bool true]∧l'=GateObj A ⟨⟨ao,xs.length,c⟩,n1,n2,n3,n4,n5,n6,n7,n8,n9,n10,n11⟩ xs 0 (TreeS.new (rootG ⟨⟨ao,xs.length,c⟩,n1,n2,n3,n4,n5,n6,n7,n8,n9,n10,n11⟩ xs) 0 n3) (TabS.new xs.length n1) []::l):=by
 refine calls_enter Tryz.func6 rfl rfl rfl hs ?_
 refine Z5 ?_;intro bx1
 refine oi (os_alloc zB_31 rfl) ?_;rintro _ _ ⟨bx2,rfl,rfl⟩
 refine R5 ?_
 refine oi (os_call cb_20 rfl (fun w s=>GNewS_calls _ _ _ _ _ _ _ _ _ _ _ _ _ _  s (by assumption) ((hr.cons _).cons _) (by assumption))) ?_;rintro _ _ ⟨A,rfl,rfl⟩
 refine R9 ?_
 refine oi (os_call cb_23 rfl (fun w s=>R19NewS_calls _ _ _ _ _ _ _ _ _ _ _ _ _ _  s (by assumption) (((hr.cons _).cons _).cons _) (by assumption))) ?_;rintro _ _ ⟨rg2,rfl,rfl⟩
 refine R10 ?_
 refine oq (op_build (L:=[_,_]) (vs:=[(0,.pointer _),(1,.pointer _)]) bB_31 rfl ⟨⟨rfl,rfl⟩,⟨rfl,rfl⟩,trivial⟩ rfl) ?_
 refine R2 ?_
 refine Z3f ?_
 refine ol_q (wn_some rfl rfl rfl rfl rfl) (op_eq rfl rfl) rfl ?_
 refine Zr ?_
 refine Z2 ?_
 refine Z8u ?_
 refine R4 ?_
 exact px_rv2 rfl (rv_cella (L:=[.pointer _,.pointer _]) 0 ag_31 rfl rfl rfl (by simp)) (rv_tmp (v:=.bool _) rfl) (fun _ s=>((s.del 2).del 0)) ⟨_,_,rfl,rfl⟩
/-- a call of a method with its receiver -/
theorem os_callvB {P:Program} {w0:World} {n:Nat} {f:Fr} {l:List HProp} {d:Option Tmp} {ty:TypeId} {pos:String} {aft:Array Edge} {g:Option (Nat×Bool)} {y:Operand} {k:Nat} {args:Array Operand} {as_:Array TypeId} {vs F:List Value} {R:Value→List HProp→Prop} (hB:callB P k=true) (hf:ev f y=.func (.func k) F.toArray #[]) (hv:args.toList.map (ev f)=vs)
  (hc:∀ w,Sat w0 w l→Calls P k (F++vs).toArray w (Ret w0 R)):OS P w0 n ⟨d,.call ⟨.value y,args,as_⟩,ty,pos,aft,g⟩ f l R:=fun a w r s=>by
 have he:args.map a.eval=vs.toArray:=by
  rw [←hv];apply Array.toList_inj.1;rw [Array.toList_map];simp only [List.toList_toArray];congr 1;funext x;exact r.eval x
 have hfv:a.eval y=.func (.func k) F.toArray #[]:=(r.eval y).trans hf
 unfold callB at hB
 cases hk:P.funcs[k]? with
 | none=>simp [hk] at hB
 | some fn =>
  simp only [hk,Bool.and_eq_true,Bool.not_eq_true',Option.isSome_iff_exists] at hB
  obtain ⟨h1,c,h2⟩:=hB
  have h1':¬ fn.name = "runtime.NumGoroutine":=by simpa using h1
  have hvc:F.toArray++vs.toArray=(F++vs).toArray:=by simp
  simp [execOp,resolve,Deferred.ofValue,invoke,callFunc,he,hfv,hk,h1',h2,gives]
  refine (hc w s).mono fun e w' hq=>?_
  obtain ⟨v,l',rfl,hR,s'⟩:=hq
  exact ⟨v,rfl,l',hR,s'⟩
structure FnV where
 k:Nat
 F:List Value
def encFn:Enc FnV:=⟨fun x=>[.func (.func x.k) x.F.toArray #[]],1,fun _=>rfl,fun x u hu=>by simp at hu;subst hu;rfl,by decide⟩
def kdG (q:Nat):List Int:=if q=0 then [1] else []
theorem Gkids_calls {w0 w:World} {l:List HProp} (ba:Option Addr) (bc:Nat) (b0 b1:GBlk) (q0:Nat) (hs:Sat w0 w (l)) (hr:Rds w0 l encGBlk ba [b0,b1]) (hp:b1.parent=b0.root) (hq:q0≤1) :
  Calls Tryz.prog 145 #[.agg #[.slice ba 2 bc,.slice none 0 0],.int .i64 (q0:Int)] w (Ret w0 fun v l'=>∃ a2 c2,v=.slice a2 (kdG q0).length c2∧l'=Row 3 encI64 (.slice a2 (kdG q0).length c2) (kdG q0)::l):=by
 refine calls_enter Tryz.func145 rfl rfl rfl hs ?_
 refine Z5 ?_;intro bx1
 refine R15 ?_
 refine Z72 ?_
 refine cd_loop2 (α:=Nat×Option Addr×Nat) [(5,6),(9,32)] (fun x=>[(5,.slice x.2.1 (if q0=0∧x.1=2 then [1] else []:List Int).length x.2.2),(6,.int .i64 (x.1:Int))]) (fun x=>Row 3 encI64 (.slice x.2.1 (if q0=0∧x.1=2 then [1] else []:List Int).length x.2.2) (if q0=0∧x.1=2 then [1] else []:List Int)::Blk bx1 (.cells #[.slice ba 2 bc,.slice none 0 0] 120 (0,0))::l) (fun x=>q0+1≤x.1∧x.1≤2) (fun x=>2-x.1) (q0+1,none,0) ⟨Nat.le_refl _,by omega⟩ ⟨(by show Value.slice none 0 0=Value.slice none (if q0=0∧q0+1=2 then [1] else []:List Int).length 0;rw [if_neg (by omega)];rfl),congrArg (Value.int .i64) (by simp),trivial⟩ (fun _ s=>by simp only;rw [if_neg (by omega)];exact s) ?_
 rintro ⟨i,ka,kc⟩ ⟨hi1,hi2⟩ f;(try dsimp only at hi1 hi2 ⊢)
 refine R5 ?_
 refine oq (op_len_slice Tryz.underlying117 rfl) ?_
 refine Z6 ?_ ?_
 ·intro hb1 hp1
  obtain rfl:i=1:=by omega
  obtain rfl:q0=0:=by omega
  refine R5 ?_
  refine Zo ?_
  refine R3 ?_
  refine rg_q (wn_none rfl) (op_index _ sB_117 rfl rfl rfl ((hr.cons _).cons _) rfl (by simp)) rfl rfl ?_
  refine rg_q (wn_none rfl) (op_fielde fld_125_1 rfl ((hr.cons _).cons _) (by simp)) rfl rfl ?_
  refine rg_q (wn_none rfl) (op_ldaf (L:=rootC _) 32 ag_35 ((hr.cons _).cons _) rfl (by simp) rfl (gBlkC_f32 _)) rfl rfl ?_
  refine R3 ?_
  refine rg_q (wn_none rfl) (op_index _ sB_117 rfl rfl rfl ((hr.cons _).cons _) rfl (by simp)) rfl rfl ?_
  refine rg_q (wn_none rfl) (op_fielde fld_125_0 rfl ((hr.cons _).cons _) (by simp)) rfl rfl ?_
  refine rg_q (wn_none rfl) (op_ldaf (L:=rootC _) 0 ag_35 ((hr.cons _).cons _) rfl (by simp) rfl (gBlkC_f0 _)) rfl rfl ?_
  refine rg_q (wn_none rfl) (op_eqroot _ _ rB_35 rfl rfl) rfl rfl ?_
  refine Zu ?_
  refine Z4 ?_ ?_
  ·intro hb2 hp2
   refine R3 ?_
   refine oi (os_bslice (E:=encI64) [_] (ys:=[1]) sB_39 zv_3 rfl rfl rfl rfl (by decide)) ?_;rintro _ _ ⟨ao1,rfl,rfl⟩
   refine Z2 ?_
   refine oi (os_append (E:=encI64) rfl sB_39 zv_3 rfl rfl rfl (fun w s=>(rds_row 1 rfl rfl) [] w s) rfl (by simp) (by unfold maxLen;simp)) ?_;rintro _ _ ⟨ao2,ac2,rfl,rfl⟩
   refine R9 ?_
   refine px_loop2 (2,ao2,ac2) (by simp) (by show 2-2<2-1;decide) ⟨rfl,rfl,trivial⟩ ?_ (fun _ s=>(s.del 1))
   exact Z0
  intro hb2 hp2
  exact absurd hp (of_decide_eq_false hb2)
 intro hb1 hp1
 obtain rfl:i=2:=by omega
 refine R11 ?_
 have hk:(if q0=0∧2=2 then [1] else []:List Int)=kdG q0:=by unfold kdG;by_cases h:q0=0<;>simp [h]
 rw [hk]
 exact Z9u
theorem GhW1_calls {w0 w:World} {l:List HProp} (ba:Option Addr) (bc:Nat) (b0 b1:GBlk) (hs:Sat w0 w (l)) (hr:Rds w0 l encGBlk ba [b0,b1]) (hp:b1.parent=b0.root) :
  Calls Tryz.prog 103 #[.agg #[.slice ba 2 bc,.slice none 0 0],.int .i64 1] w (Ret w0 fun v l'=>v=.int .i64 0∧l'=l):=by
 refine calls_enter Tryz.func103 rfl rfl rfl hs ?_
 refine Z5 ?_;intro bx1
 refine R11 ?_
 refine oq (op_len_slice Tryz.underlying118 rfl) ?_
 refine R4 ?_
 refine Zbw ?_
 rintro ⟨⟩ _ f;(try dsimp only)
 refine Z3 ?_ ?_
 ·intro hb1 hp1
  exact absurd (of_decide_eq_true hb1) (by decide)
 intro hb1 hp1
 refine R7 ?_
 refine oq (op_lda 0 ag_120 rfl rfl (by rfl) (by simp)) ?_
 refine R1 ?_
 refine oi (os_call cb_145 rfl (fun w s=>Gkids_calls (q0:=1) _ _ _ _  s (hr.cons _) hp (by decide))) ?_;rintro _ _ ⟨gka1,gkc1,rfl,rfl⟩
 refine Z33 ?_
 refine cd_loop2 (α:=Unit) [(5,5),(9,9),(35,44)] (fun x=>[(5,.int .i64 0),(35,.int .i64 0)]) (fun _=>_) (fun x=>True) (fun x=>0) () trivial ⟨rfl,rfl,trivial⟩ (fun _ s=>s) ?_
 rintro ⟨⟩ _ f;(try dsimp only)
 refine Z3 ?_ ?_
 ·intro hb2 hp2
  exact absurd (of_decide_eq_true hb2) (by decide)
 intro hb2 hp2
 refine R11 ?_
 exact Z5y
theorem GhW0_calls {w0 w:World} {l:List HProp} (ba:Option Addr) (bc:Nat) (b0 b1:GBlk) (hs:Sat w0 w (l)) (hr:Rds w0 l encGBlk ba [b0,b1]) (hp:b1.parent=b0.root) :
  Calls Tryz.prog 103 #[.agg #[.slice ba 2 bc,.slice none 0 0],.int .i64 0] w (Ret w0 fun v l'=>v=.int .i64 0∧l'=l):=by
 refine calls_enter Tryz.func103 rfl rfl rfl hs ?_
 refine Z5 ?_;intro bx1
 refine R11 ?_
 refine oq (op_len_slice Tryz.underlying118 rfl) ?_
 refine R4 ?_
 refine Zbw ?_
 rintro ⟨⟩ _ f;(try dsimp only)
 refine Z3 ?_ ?_
 ·intro hb1 hp1
  exact absurd (of_decide_eq_true hb1) (by decide)
 intro hb1 hp1
 refine R7 ?_
 refine oq (op_lda 0 ag_120 rfl rfl (by rfl) (by simp)) ?_
 refine R1 ?_
 refine oi (os_call cb_145 rfl (fun w s=>Gkids_calls (q0:=0) _ _ _ _  s (hr.cons _) hp (by decide))) ?_;rintro _ _ ⟨gka1,gkc1,rfl,rfl⟩
 refine Z33 ?_
 refine cd_loop2 (α:=Nat) [(5,5),(9,9),(35,44)] (fun x=>[(5,.int .i64 0),(35,.int .i64 (x:Int))]) (fun _=>_) (fun x=>x≤1) (fun x=>1-x) 0 (Nat.zero_le _) ⟨rfl,rfl,trivial⟩ (fun _ s=>s) ?_
 rintro q hq f;(try dsimp only at hq ⊢)
 refine Z3 ?_ ?_
 ·intro hb2 hp2
  obtain rfl:q=0:=by have h:=of_decide_eq_true hb2;simp [kdG] at h;omega
  refine R5 ?_
  refine oq (op_index 0 sB_39 rfl rfl rfl (rds_row 0 rfl rfl) rfl (by decide)) ?_
  refine oq (op_ldw sc_3 (rds_row 0 rfl rfl) rfl (by decide) rfl) ?_
  refine R5 ?_
  refine Z7d ?_
  refine R1 ?_
  refine oi (os_call cb_103 rfl (fun w s=>GhW1_calls _ _ _ _  s ((hr.cons _).cons _) hp)) ?_;rintro _ l ⟨rfl,rfl⟩
  refine R9 ?_
  refine px_loop2 1 (Nat.le_refl _) (by decide) ⟨rfl,rfl,trivial⟩ ?_ (fun _ s=>s)
  exact Z0
 intro hb2 hp2
 refine R11 ?_
 exact Z5y
theorem GhW_calls {w0 w:World} {l:List HProp} (ba:Option Addr) (bc:Nat) (b0 b1:GBlk) (q0:Nat) (hs:Sat w0 w l) (hr:Rds w0 l encGBlk ba [b0,b1]) (hp:b1.parent=b0.root) (hq:q0≤1):Calls Tryz.prog 103 #[.agg #[.slice ba 2 bc,.slice none 0 0],.int .i64 (q0:Int)] w (Ret w0 fun v l'=>v=.int .i64 0∧l'=l):=by
 rcases Nat.le_one_iff_eq_zero_or_eq_one.1 hq with rfl | rfl
 ·exact GhW0_calls ba bc b0 b1 hs hr hp
 exact GhW1_calls ba bc b0 b1 hs hr hp
theorem Gbest_calls {w0 w:World} {l:List HProp} (ba:Option Addr) (bc:Nat) (b0 b1:GBlk) (q0:Nat) (hs:Sat w0 w (l)) (hr:Rds w0 l encGBlk ba [b0,b1]) (hp:b1.parent=b0.root) (hq:q0≤1) :
  Calls Tryz.prog 101 #[.agg #[.slice ba 2 bc,.slice none 0 0],.int .i64 (q0:Int)] w (Ret w0 fun v l'=>v=.int .i64 (if q0=0 then 1 else -1)∧l'=l):=by
 refine calls_enter Tryz.func101 rfl rfl rfl hs ?_
 refine Z5 ?_;intro bx1
 refine R10 ?_
 refine oq (op_lda 0 ag_120 rfl rfl (by rfl) (by simp)) ?_
 refine R1 ?_
 refine oi (os_call cb_145 rfl (fun w s=>Gkids_calls _ _ _ _ _  s (hr.cons _) (by assumption) (by omega))) ?_;rintro _ _ ⟨gka1,gkc1,rfl,rfl⟩
 refine Z33 ?_
 refine cd_loop2 (α:=Nat) [(5,6),(8,9),(14,50)] (fun x=>[(5,.int .i64 (if x=0 then -1 else 1)),(6,.int .i64 0),(14,.int .i64 (x:Int))]) (fun _=>_) (fun x=>x≤(kdG q0).length) (fun x=>(kdG q0).length-x) 0 (Nat.zero_le _) ⟨rfl,rfl,rfl,trivial⟩ (fun _ s=>s) ?_
 rintro i hi f;(try dsimp only at hi ⊢)
 refine Z3 ?_ ?_
 ·intro hb1 hp1
  obtain ⟨rfl,rfl⟩:q0=0∧i=0:=by
   have h:=of_decide_eq_true hb1
   unfold kdG at h
   split at h
   ·simp at h;omega
   simp at h;omega
  refine R5 ?_
  refine oq (op_index _ sB_39 rfl rfl rfl (rds_row 0 rfl rfl) rfl (by decide)) ?_
  refine oq (op_ldw sc_3 (rds_row 0 rfl rfl) rfl (by decide) rfl) ?_
  refine R4 ?_
  refine Z7d ?_
  refine R1 ?_
  refine oi (os_call cb_103 rfl (fun w s=>GhW_calls (q0:=1) _ _ _ _  s ((hr.cons _).cons _) hp (Nat.le_refl _))) ?_;rintro _ _ ⟨rfl,rfl⟩
  refine R4 ?_
  refine cd_draw (M:=[]) mx [24] (by kernel_rfl) ?_
  refine R3 ?_
  refine rgs 23 rfl ?_ ?_
  ·intro hb2 hp2
   refine Z2m ?_
   refine Z7q ?_
   refine Z7r ?_
   refine R1 ?_
   refine Z7e ?_
   refine Z7e ?_
   refine Z7e ?_
   refine Z7e ?_
   refine Z3p ?_
   refine Z3p ?_
   refine Z3p ?_
   refine Z3p ?_
   refine Z3p ?_
   refine Z3p ?_
   refine Z89 ?_
   refine Z7e ?_
   refine rg_q (wn_none rfl) (op_pick_t (v:=.bool _) rfl rfl rfl) rfl rfl ?_
   refine Zu ?_
   refine Z35 ?_
   refine R12 ?_
   refine px_loop2 1 (by decide) (by decide) ⟨rfl,rfl,rfl,trivial⟩ ?_ (fun _ s=>s)
   exact Z0
  intro hb2 hp2
  exact absurd hb2 (by simp)
 intro hb1 hp1
 have hbv:(if i=0 then -1 else 1:Int)=(if q0=0 then 1 else -1):=by
  have h:=of_decide_eq_false hb1
  unfold kdG at h hi
  by_cases h0:q0=0
  ·simp [h0] at h hi ⊢;omega
  simp [h0] at h hi ⊢;omega
 rw [hbv]
 refine R11 ?_
 exact Z5y
theorem Gplace_calls {w0 w:World} {l:List HProp} (ba:Option Addr) (bc:Nat) (b0 b1:GBlk) (r:Root) (hs:Sat w0 w (l)) (hr:Rds w0 l encGBlk ba [b0,b1]) (hp:b1.parent=b0.root) :
  Calls Tryz.prog 102 #[.agg #[.slice ba 2 bc,.slice none 0 0],.agg (rootC r).toArray] w (Ret w0 fun v l'=>∃ k:Int,v=.int .i64 k∧(-1≤k∧k≤1)∧l'=l):=by
 refine calls_enter Tryz.func102 rfl rfl rfl hs ?_
 refine Z1s ?_;intro bx1 bx2
 refine R7 ?_
 refine oq (op_len_slice Tryz.underlying117 rfl) ?_
 refine R4 ?_
 refine cd_loop2 (α:=Nat) [(4,6),(10,20)] (fun x=>[(10,.int .i64 (x:Int))]) (fun _=>_) (fun x=>x≤2) (fun x=>2-x) 0 (Nat.zero_le _) ⟨rfl,trivial⟩ (fun _ s=>s) ?_
 rintro i hi f;(try dsimp only at hi ⊢)
 refine Z3 ?_ ?_
 ·intro hb1 hp1
  have hz:i<2:=by omega
  refine R6 ?_
  refine oq (op_index _ sB_117 rfl rfl rfl ((hr.cons _).cons _) rfl (by show i<2;omega)) ?_
  refine oq (op_ldaw (L:=gBlkC _) ag_125 ((hr.cons _).cons _) rfl (by show i<2;omega) rfl (gBlkC_ta _)) ?_
  refine oi (os_alloc (cs:=(gBlkC GBlk.zero).toArray) zB_125 (by kernel_rfl)) ?_;rintro _ _ ⟨bx3,rfl,rfl⟩
  refine R1 ?_
  refine oN (os_storew (gBlkC _) ag_125 rfl rfl (gBlkC_len _) (gBlkC_one _) (by simp [gBlkC_len]) (Free.zero _)) ?_;rintro _ _ ⟨rfl,rfl⟩
  refine R6 ?_
  refine oq (op_eqroot _ _ rB_35 rfl rfl) ?_
  refine Z8 ?_ ?_
  ·intro hb2 hp2
   refine R11 ?_
   exact px_ret1 rfl (v:=.int _ _) rfl (fun _ s=>(((s.del 2).del 1).del 0)) ⟨_,rfl,(by omega),rfl⟩
  intro hb2 hp2
  refine R7 ?_
  refine px_loop2 (i+1) (by omega) (by (try dsimp only);omega) ⟨congrArg (Value.int .i64) (by simp),trivial⟩ ?_ (fun _ s=>(s.del 0))
  exact Z0
 intro hb1 hp1
 refine R10 ?_
 exact px_ret1 rfl (v:=.int _ _) rfl (fun _ s=>((s.del 1).del 0)) ⟨_,rfl,(by omega),rfl⟩
theorem GWeight_calls {w0 w:World} {l:List HProp} (ba:Option Addr) (bc:Nat) (b0 b1:GBlk) (r:Root) (hs:Sat w0 w (l)) (hr:Rds w0 l encGBlk ba [b0,b1]) (hp:b1.parent=b0.root) :
  Calls Tryz.prog 52 #[.agg #[.slice ba 2 bc,.slice none 0 0],.agg (rootC r).toArray] w (Ret w0 fun v l'=>v=.int .i64 0∧l'=l):=by
 refine calls_enter Tryz.func52 rfl rfl rfl hs ?_
 refine Z1s ?_;intro bx1 bx2
 refine R5 ?_
 refine Z7d ?_
 refine R1 ?_
 refine oi (os_call cb_102 rfl (fun w s=>Gplace_calls _ _ _ _ _  s ((hr.cons _).cons _) (by assumption))) ?_;rintro _ _ ⟨gp1,rfl,hgp1,rfl⟩
 refine R8 ?_
 refine Z4 ?_ ?_
 ·intro hb1 hp1
  obtain ⟨k0,rfl,hk0⟩:∃ k0:Nat,gp1=(k0:Int)∧k0≤1:=⟨gp1.toNat,by omega,by omega⟩
  refine R1 ?_
  refine Z7d ?_
  refine R1 ?_
  refine oi (os_call cb_103 rfl (fun w s=>GhW_calls (q0:=k0) _ _ _ _  s ((hr.cons _).cons _) (by assumption) (by omega))) ?_;rintro _ _ ⟨rfl,rfl⟩
  refine R5 ?_
  exact Z5y
 intro hb1 hp1
 refine R7 ?_
 exact Z5y
theorem GHeadC_calls {w0 w:World} {l:List HProp} (ba:Option Addr) (bc:Nat) (b0 b1:GBlk) (hs:Sat w0 w (l)) (hr:Rds w0 l encGBlk ba [b0,b1]) (hp:b1.parent=b0.root) :
  Calls Tryz.prog 51 #[.agg #[.slice ba 2 bc,.slice none 0 0]] w (Ret w0 fun v l'=>v=.agg (rootC b1.root).toArray∧l'=l):=by
 refine calls_enter Tryz.func51 rfl rfl rfl hs ?_
 refine Z5 ?_;intro bx1
 refine Zp ?_;intro bx2
 refine R6 ?_
 refine oq (op_len_slice Tryz.underlying117 rfl) ?_
 refine Z6 ?_ ?_
 ·intro hb1 hp1
  exact absurd hb1 (by simp)
 intro hb1 hp1
 refine R7 ?_
 refine Z7d ?_
 refine oq (op_makefunc (F:=[_]) (C:=[]) rfl rfl) ?_
 refine Z5f ?_
 refine R3 ?_
 refine cd_loop2 (α:=Nat) [(3,3),(5,5),(13,24)] (fun x=>[(3,.int .i64 (x:Int))]) (fun _=>_) (fun x=>x≤1) (fun x=>1-x) 0 (Nat.zero_le _) ⟨rfl,trivial⟩ (fun _ s=>s) ?_
 rintro q0 hq f;(try dsimp only at hq ⊢)
 refine R2 ?_
 refine Z4r ?_
 refine R1 ?_
 refine oi (os_callvB (F:=[_]) (vs:=[_]) cb_101 rfl rfl (fun w s=>Gbest_calls (q0:=q0) _ _ _ _  s ((hr.cons _).cons _) hp (by omega))) ?_;rintro _ _ ⟨rfl,rfl⟩
 refine R9 ?_
 refine Z4 ?_ ?_
 ·intro hb2 hp2
  obtain rfl:q0=1:=by
   have h:=of_decide_eq_true hb2
   by_cases h0:q0=0
   ·rw [if_pos h0] at h;omega
   omega
  refine R4 ?_
  refine oq (op_index _ sB_117 rfl rfl rfl ((hr.cons _).cons _) rfl (by simp)) ?_
  refine oq (op_fielde fld_125_0 rfl ((hr.cons _).cons _) (by simp)) ?_
  refine oq (op_ldaf (L:=rootC _) 0 ag_35 ((hr.cons _).cons _) rfl (by simp) rfl (gBlkC_f0 _)) ?_
  refine Z4z ?_
  refine R7 ?_
  exact Z9p
 intro hb2 hp2
 obtain rfl:q0=0:=by
  have h:=of_decide_eq_false hb2
  by_cases h0:q0=0
  ·exact h0
  rw [if_neg h0] at h;omega
 refine R7 ?_
 refine px_loop2 1 (Nat.le_refl _) (by decide) ⟨rfl,trivial⟩ ?_ (fun _ s=>s)
 exact Z0
end Go.SL
namespace Go.Proofs
open Go.Shelf
def Tryz.keysA_ren:Go.Shelf.Ren:=⟨fun | 7=>106 | 10=>151 | n=>n,fun | 23=>155 | 26=>3 | 3=>3 | 28=>200 | 0=>0 | 27=>199 | 33=>178 | 4=>4 | n=>n,fun | n=>n⟩
theorem Tryz.keysA:SlLaysZI.n7 Tryz.prog Tryz.keysA_ren:={
  mixed:=by kernel_rfl
  f7:=⟨Tryz.f106.name,by decide,Tryz.func106.trans (congrArg some (by kernel_rfl))⟩
  f10:=⟨Tryz.f151.name,by decide,Tryz.func151.trans (congrArg some (by kernel_rfl))⟩
  t0:=Tryz.underlying0
  a0:=Tryz.isAgg0
  z0:=Tryz.sizeOf0
  v0:=Tryz.zeroValue0
  t4:=Tryz.underlying4
  a4:=Tryz.isAgg4
  z4:=Tryz.sizeOf4
  v4:=Tryz.zeroValue4
  t23:=Tryz.underlying155
  a23:=Tryz.isAgg155
  z23:=Tryz.sizeOf155
  v23:=Tryz.zeroValue155
  t26:=Tryz.underlying3
  a26:=Tryz.isAgg3
  z26:=Tryz.sizeOf3
  v26:=Tryz.zeroValue3
  t27:=Tryz.underlying199
  a27:=Tryz.isAgg199
  z27:=Tryz.sizeOf199
  v27:=Tryz.zeroValue199
  t28:=Tryz.underlying200
  a28:=Tryz.isAgg200
  z28:=Tryz.sizeOf200
  v28:=Tryz.zeroValue200
  t33:=Tryz.underlying178
  a33:=Tryz.isAgg178
  z33:=Tryz.sizeOf178
  v33:=Tryz.zeroValue178 }
def Tryz.sortedA_ren:Go.Shelf.Ren:=⟨fun | 6=>105 | 8=>149 | 9=>150 | 11=>179 | 13=>181 | 12=>180 | 23=>207 | 24=>208 | 14=>198 | 15=>199 | 16=>200 | 17=>201 | 18=>202 | 19=>203 | 20=>204 | 21=>205 | 22=>206 | 25=>224 | 26=>225 | 27=>226 | 28=>227 | 29=>228 | 30=>229 | 31=>242 | n=>n,fun | 26=>3 | 28=>200 | 24=>39 | 0=>0 | 3=>3 | 37=>25 | 48=>145 | 50=>41 | 4=>4 | 40=>318 | 39=>317 | 45=>104 | 5=>5 | 9=>9 | 51=>337 | 55=>341 | 57=>351 | 58=>352 | 33=>178 | n=>n,fun | n=>n⟩
theorem Tryz.sortedA:SlLaysZI.n6 Tryz.prog Tryz.sortedA_ren:={
  mixed:=by kernel_rfl
  f6:=⟨Tryz.f105.name,by decide,Tryz.func105.trans (congrArg some (by kernel_rfl))⟩
  f8:=⟨Tryz.f149.name,by decide,Tryz.func149.trans (congrArg some (by kernel_rfl))⟩
  f11:=⟨Tryz.f179.name,by decide,Tryz.func179.trans (congrArg some (by kernel_rfl))⟩
  t0:=Tryz.underlying0
  a0:=Tryz.isAgg0
  z0:=Tryz.sizeOf0
  v0:=Tryz.zeroValue0
  t24:=Tryz.underlying39
  a24:=Tryz.isAgg39
  z24:=Tryz.sizeOf39
  v24:=Tryz.zeroValue39
  t26:=Tryz.underlying3
  a26:=Tryz.isAgg3
  z26:=Tryz.sizeOf3
  v26:=Tryz.zeroValue3
  t28:=Tryz.underlying200
  a28:=Tryz.isAgg200
  z28:=Tryz.sizeOf200
  v28:=Tryz.zeroValue200
  i26:=by kernel_rfl }
def Tryz.sortA_ren:Go.Shelf.Ren:=⟨fun | 5=>150 | 8=>181 | 7=>180 | 19=>207 | 20=>208 | 10=>198 | 11=>199 | 12=>200 | 13=>201 | 14=>202 | 15=>203 | 16=>204 | 17=>205 | 18=>206 | 30=>224 | 31=>225 | 32=>226 | 33=>227 | 34=>228 | 35=>229 | 40=>242 | n=>n,fun | 23=>39 | 25=>3 | 3=>3 | 32=>25 | 22=>39 | 0=>0 | 44=>145 | 46=>41 | 4=>4 | 36=>318 | 35=>317 | 41=>104 | 5=>5 | 9=>9 | 53=>337 | 57=>341 | 63=>351 | 64=>352 | n=>n,fun | n=>n⟩
theorem Tryz.sortA:SlLaysM.n5 Tryz.prog Tryz.sortA_ren:={
  mixed:=by kernel_rfl
  f5:=⟨Tryz.f150.name,by decide,Tryz.func150.trans (congrArg some (by kernel_rfl))⟩
  f7:=⟨Tryz.f180.name,by decide,Tryz.func180.trans (congrArg some (by kernel_rfl))⟩
  f8:=Tryz.func181.trans (congrArg some (by kernel_rfl))
  f10:=⟨Tryz.f198.name,by decide,Tryz.func198.trans (congrArg some (by kernel_rfl))⟩
  f11:=⟨Tryz.f199.name,by decide,Tryz.func199.trans (congrArg some (by kernel_rfl))⟩
  f12:=⟨Tryz.f200.name,by decide,Tryz.func200.trans (congrArg some (by kernel_rfl))⟩
  f13:=⟨Tryz.f201.name,by decide,Tryz.func201.trans (congrArg some (by kernel_rfl))⟩
  f14:=⟨Tryz.f202.name,by decide,Tryz.func202.trans (congrArg some (by kernel_rfl))⟩
  f15:=⟨Tryz.f203.name,by decide,Tryz.func203.trans (congrArg some (by kernel_rfl))⟩
  f16:=⟨Tryz.f204.name,by decide,Tryz.func204.trans (congrArg some (by kernel_rfl))⟩
  f17:=⟨Tryz.f205.name,by decide,Tryz.func205.trans (congrArg some (by kernel_rfl))⟩
  f18:=⟨Tryz.f206.name,by decide,Tryz.func206.trans (congrArg some (by kernel_rfl))⟩
  f19:=Tryz.func207.trans (congrArg some (by kernel_rfl))
  f20:=Tryz.func208.trans (congrArg some (by kernel_rfl))
  f30:=⟨Tryz.f224.name,by decide,Tryz.func224.trans (congrArg some (by kernel_rfl))⟩
  f31:=Tryz.func225.trans (congrArg some (by kernel_rfl))
  f32:=Tryz.func226.trans (congrArg some (by kernel_rfl))
  f33:=⟨Tryz.f227.name,by decide,Tryz.func227.trans (congrArg some (by kernel_rfl))⟩
  f34:=⟨Tryz.f228.name,by decide,Tryz.func228.trans (congrArg some (by kernel_rfl))⟩
  f35:=⟨Tryz.f229.name,by decide,Tryz.func229.trans (congrArg some (by kernel_rfl))⟩
  f40:=⟨Tryz.f242.name,by decide,Tryz.func242.trans (congrArg some (by kernel_rfl))⟩
  t0:=Tryz.underlying0
  a0:=Tryz.isAgg0
  z0:=Tryz.sizeOf0
  v0:=Tryz.zeroValue0
  t3:=Tryz.underlying3
  a3:=Tryz.isAgg3
  z3:=Tryz.sizeOf3
  v3:=Tryz.zeroValue3
  t4:=Tryz.underlying4
  a4:=Tryz.isAgg4
  z4:=Tryz.sizeOf4
  v4:=Tryz.zeroValue4
  t5:=Tryz.underlying5
  a5:=Tryz.isAgg5
  z5:=Tryz.sizeOf5
  v5:=Tryz.zeroValue5
  t9:=Tryz.underlying9
  a9:=Tryz.isAgg9
  z9:=Tryz.sizeOf9
  v9:=Tryz.zeroValue9
  t22:=Tryz.underlying39
  a22:=Tryz.isAgg39
  z22:=Tryz.sizeOf39
  v22:=Tryz.zeroValue39
  t23:=Tryz.underlying39
  a23:=Tryz.isAgg39
  z23:=Tryz.sizeOf39
  v23:=Tryz.zeroValue39
  t25:=Tryz.underlying3
  a25:=Tryz.isAgg3
  z25:=Tryz.sizeOf3
  v25:=Tryz.zeroValue3
  t32:=Tryz.underlying25
  a32:=Tryz.isAgg25
  z32:=Tryz.sizeOf25
  v32:=Tryz.zeroValue25
  t35:=Tryz.underlying317
  a35:=Tryz.isAgg317
  z35:=Tryz.sizeOf317
  v35:=Tryz.zeroValue317
  t36:=Tryz.underlying318
  a36:=Tryz.isAgg318
  z36:=Tryz.sizeOf318
  v36:=Tryz.zeroValue318
  t41:=Tryz.underlying104
  a41:=Tryz.isAgg104
  z41:=Tryz.sizeOf104
  v41:=Tryz.zeroValue104
  t44:=Tryz.underlying145
  a44:=Tryz.isAgg145
  z44:=Tryz.sizeOf145
  v44:=Tryz.zeroValue145
  t46:=Tryz.underlying41
  a46:=Tryz.isAgg41
  z46:=Tryz.sizeOf41
  v46:=Tryz.zeroValue41
  t53:=Tryz.underlying337
  a53:=Tryz.isAgg337
  z53:=Tryz.sizeOf337
  v53:=Tryz.zeroValue337
  t57:=Tryz.underlying341
  a57:=Tryz.isAgg341
  z57:=Tryz.sizeOf341
  v57:=Tryz.zeroValue341
  t63:=Tryz.underlying351
  a63:=Tryz.isAgg351
  z63:=Tryz.sizeOf351
  v63:=Tryz.zeroValue351
  t64:=Tryz.underlying352
  a64:=Tryz.isAgg352
  z64:=Tryz.sizeOf352
  v64:=Tryz.zeroValue352 }
end Go.Proofs
namespace Go.SL
open Go.Proofs
theorem Sat.keepZ {w0 w w':World} {l:List HProp} (s:Sat w0 w l) (hd:w0.drawn=0) (h:RowKit.Below w.heap.size w w'):Sat w0 w' l:=by
 obtain ⟨h0,a,x⟩:=s.own
 exact ⟨h.os.trans s.os,h.tape.trans s.tape,h.output.trans s.output,⟨Nat.le_trans s.size.1 h.size,by rw [hd];exact Nat.zero_le _⟩,h0,fun k o hk=>(h.block k (Array.getElem?_eq_some_iff.1 (a k o hk)).1).trans (a k o hk),x⟩
open Go.RowKit Go.Maps Go.Sort Go.Shelf in
theorem sortsK (m:Nat):AnyZI.SortsIn Tryz.prog Tryz.sortedA_ren Fence.wide m :=
 ⟨fun blk off cap ss W hH hblk hsz=>callsIn_wide.2 (AnyM.slices_Sort_int Tryz.sortA blk off cap ss W hH hblk hsz),
  fun p cap W=>callsIn_wide.2 (AnyM.slices_Sort_int_none Tryz.sortA p cap W)⟩
open Go.RowKit Go.Maps Go.Sort Go.Shelf in
theorem Keys_calls {w0 w:World} {l:List HProp} (mb:Nat) (hs:Sat w0 w l):Calls Tryz.prog 106 #[.map (some mb)] w (Ret w0 fun v l'=>∃ kb:Nat,v=.func (.func 151) #[] #[.pointer (some ⟨kb,0,none⟩)]∧l'=Blk kb (.cells #[.map (some mb)] 155 (0,0))::l):=by
 have h:=AnyZI.keys_in Tryz.keysA Fence.wide 5 trivial rfl (some mb) w
 refine ((callsIn_wide (n:=5)).1 h).mono fun e w' ⟨he,hw⟩=>?_
 subst hw
 exact ⟨_,_,he,⟨_,rfl,rfl⟩,hs.alloc _⟩
open Go.RowKit Go.Maps Go.Sort Go.Shelf in
theorem SortedE_calls {w0 w:World} {l:List HProp} (kb mb:Nat) (hs:Sat w0 w (Blk kb (.cells #[.map (some mb)] 155 (0,0))::MapO EVI EVI mb ([]:List (Int×Int))::l)) (hd0:w0.drawn=0):Calls Tryz.prog 105 #[.func (.func 151) #[] #[.pointer (some ⟨kb,0,none⟩)]] w (Ret w0 fun v l'=>v=.slice none 0 0∧l'=Blk kb (.cells #[.map (some mb)] 155 (0,0))::MapO EVI EVI mb ([]:List (Int×Int))::l):=by
 obtain ⟨es,clock,he,hB,s2⟩:=(hs.pull 1).mapOpen
 have hes:es=#[]:=by
  have:=List.map_eq_nil_iff.1 he
  exact Array.toList_inj.1 this
 subst hes
 have hm:w.heap[mb]? = some (.map #[] clock):=s2.blk
 have hk:w.heap[kb]? = some (.cells #[.map (some mb)] 155 (0,0)):=hs.blk
 have hseq:SeqGives Fence.wide 2 Tryz.prog 151 #[.pointer (some ⟨kb,0,none⟩)] encZ (fun ss=>ss.Perm (intKeys (.map []:DataW Unit))) (Maps.size (.map []:DataW Unit)) w :=
  AnyZI.keys_gives (ρ:=Tryz.keysA_ren) { Tryz.keysA with } Fence.wide _ trivial rfl (by omega) kb mb 0 (.map []) (R:=fun _=>none) w (Array.getElem?_eq_some_iff.1 hk).1 (by simp [World.cell?,hk]) ⟨#[],clock,hm,⟨Nat.zero_le _,⟨fun x hx=>(by cases hx),List.nodup_nil,List.nodup_nil⟩,fun x hx=>by cases hx⟩,Nat.le_refl _,rfl⟩
 have cS:=AnyZI.sorted_in Tryz.sortedA Fence.wide 5 trivial trivial trivial trivial rfl (by omega) (sortsK _) (enters_of Tryz.func150 (by kernel_rfl) rfl) 151 #[.pointer (some ⟨kb,0,none⟩)] trivial (enters_of Tryz.func151 (by kernel_rfl) rfl) _ _ (by decide) (by decide) w hseq
 refine ((callsIn_wide (n:=5)).1 cS).mono fun e w' ⟨v,ss,h1,h2,h3,h4,h5⟩=>?_
 have hss:ss=[]:=h2.eq_nil
 have hv:=h4.2 hss
 subst hv
 exact ⟨_,_,h1,⟨rfl,rfl⟩,hs.keepZ hd0 h5⟩
theorem PeKnown_calls {w0 w:World} {l:List HProp} (pe mb:Nat) (most ban decay:Int) (hs:Sat w0 w ((Blk pe (.cells #[.map (some mb),.int .i64 most,.int .i64 ban,.int .i64 decay,.int .i64 0] 157 (0,0)))::(MapO EVI EVI mb ([]:List (Int×Int)))::l)) (hd0:w0.drawn=0) :
  Calls Tryz.prog 58 #[.pointer (some ⟨pe,0,none⟩)] w (Ret w0 fun v l'=>v=.slice none 0 0∧l'=Blk pe (.cells #[.map (some mb),.int .i64 most,.int .i64 ban,.int .i64 decay,.int .i64 0] 157 (0,0))::MapO EVI EVI mb ([]:List (Int×Int))::l):=by
 refine calls_enter Tryz.func58 rfl rfl rfl hs ?_
 refine R7 ?_
 refine oq (op_eqnil Tryz.underlying78 rfl rfl) ?_
 refine Z2o ?_
 refine oi (os_call cb_106 rfl (fun w s=>Keys_calls _  s )) ?_;rintro _ _ ⟨kb1,rfl,rfl⟩
 refine Z7 ?_
 refine Z2 ?_
 refine oi (os_call cb_105 rfl (fun w s=>SortedE_calls _ _  s (by assumption))) ?_;rintro _ _ ⟨rfl,rfl⟩
 refine R4 ?_
 exact px_ret1 rfl (v:=.slice _ _ _) rfl (fun _ s=>((s.del 0).pull 1)) ⟨rfl,rfl⟩
section
variable {tb:TabS} {vs:List Val} {ns:List Node} {o:List Int} {D:ChD} {most:Int}
theorem vote0_eff (hv:∀ who:Int,tb.vote who=none) (k:Nat):effT tb k=none:=by
  unfold effT
  split
  · rw [hv];rfl
  · rfl
theorem own0 (hv:∀ who:Int,tb.vote who=none) (j:Nat):oA (ownE vs (effT tb) ns) j=0:=by
  by_cases h:j<ns.length
  · rw [ownE_at h]
    exact sg_zero fun k _=>by unfold shareE;rw [vote0_eff hv];exact if_neg (by simp)
  · exact oA_out (by rw [ownE_len];omega)
theorem sum0 (h:∀ j,oA o j=0) (a:Nat):sumN ns o a=0:=sg_zero fun j _=>by
  show (if _ then oA o j else 0)=(0:Int)
  rw [h];split<;>rfl
theorem of0 {t:TreeS} {n:Nat} {f:Nat→Int} (h:∀ i,f i=0) (r:Root):ofF t n f r=0:=by
  unfold ofF
  split
  · split
    · exact h _
    · rfl
  · rfl
theorem kids_path (j p:Nat):∀ n,n≤j+1→kidsI (pathT D most j).nodes n p=if p+1<n then [p+1] else []
  | 0,_=>rfl
  | n+1,h=>by
    have hpr:prA (pathT D most j).nodes n=(n:Int)-1:=by unfold prA;rw [path_get (by omega)];rfl
    rw [kidsI_succ,kids_path j p n (by omega),hpr]
    by_cases h1:n=p+1
    · rw [if_pos (by omega),if_neg (by omega),if_pos (by omega),h1];rfl
    · rw [if_neg (by omega)]
      by_cases h2:p+1<n
      · rw [if_pos h2,if_pos (by omega)]
      · rw [if_neg h2,if_neg (by omega)]
theorem best_path (S:Nat→Int) (j p n:Nat) (h:n≤j+1):bestN (pathT D most j).nodes S n p=if p+1<n then ((p+1:Nat):Int) else -1:=by
  unfold bestN
  rw [kids_path j p n h]
  by_cases h2:p+1<n
  · rw [if_pos h2,if_pos h2];rfl
  · rw [if_neg h2,if_neg h2];rfl
theorem leaf_path (S:Nat→Int) (j n:Nat) (h:n≤j+1):∀ k i,i<n→n-i≤k+1→leafF (pathT D most j).nodes S n k i=n-1
  | 0,i,h1,h2=>by show i=n-1;omega
  | k+1,i,h1,h2=>by
    unfold leafF
    rw [best_path S j i n h]
    by_cases h3:i+1<n
    · rw [if_pos h3,if_neg (by omega)]
      exact leaf_path S j n h k (i+1) h3 (by omega)
    · rw [if_neg h3,if_pos (by decide)];omega
theorem head_path (j:Nat) (h:o.length=j+1):headW (pathT D most j).nodes o=D.r j:=by
  unfold headW leafN
  rw [h,leaf_path _ j (j+1) (Nat.le_refl _) (j+1) 0 (by omega) (by omega)]
  exact path_rt (by omega)
theorem tab0_vote (n:Nat) (sl who:Int):(TabS.new n sl).vote who=none:=by
  unfold TabS.vote TabS.new
  split
  · simp only [List.getD_eq_getElem?_getD,List.getElem?_replicate]
    split<;>rfl
  · rfl
theorem tab0_forget (n:Nat) (sl s:Int):(TabS.new n sl).forget s=TabS.new n sl:=by
  unfold TabS.forget
  split
  · rfl
  · rfl
theorem tab0_len (n:Nat) (sl:Int):(TabS.new n sl).latest.length=n:=by unfold TabS.new;simp
end
theorem SizeOf_calls {w0 w:World} {l:List HProp} (A:GA) (C:Cfg) (xs:List Val) (now:Int) (t:TreeS) (tb:TabS) (K:List PItem) (hs:Sat w0 w ((GateObj A C xs now t tb K)::l)) (hd0:w0.drawn=0) (hv:∀ who:Int,tb.vote who=none) :
  Calls Tryz.prog 22 #[.pointer (some ⟨A.g,0,none⟩)] w (Ret w0 fun v l'=>∃ q1 q2 q3 q4 q5:Int,v=.agg #[.int .i64 t.nodes.length,.int .i64 q1,.int .i64 q2,.int .i64 q3,.int .i64 q4,.int .i64 q5]∧l'=GateObj A C xs now t tb K::l):=by
 refine calls_enter Tryz.func22 rfl rfl rfl hs ?_
 refine R1 ?_
 refine oi (os_alloc zB_70 rfl) ?_;rintro _ _ ⟨bx1,rfl,rfl⟩
 refine R2 ?_
 refine cd_pull1 ?_
 refine Z1y ?_
 refine R2 ?_
 refine Z54 ?_
 refine Zg ?_
 refine Z8r ?_
 refine ol_pull4 ?_
 refine Z9z ?_
 refine R1 ?_
 refine Z7 ?_
 refine oi (os_call cb_18 rfl (fun w s=>GOrph_calls _ _ _  s )) ?_;rintro _ _ ⟨rfl,rfl⟩
 refine ol_pull8 ?_
 refine ol_pull8 ?_
 refine oi (os_call cb_19 rfl (fun w s=>OrLen_calls _ _ _ _ _  s )) ?_;rintro _ _ ⟨rfl,rfl⟩
 refine R1 ?_
 refine Z7 ?_
 refine oi (os_call cb_55 rfl (fun w s=>GEarly_calls _ _ _  s )) ?_;rintro _ _ ⟨rfl,rfl⟩
 refine ol_pull10 ?_
 refine ol_pull10 ?_
 refine oi (os_call cb_56 rfl (fun w s=>EaLen_calls _ _ _ _ _  s )) ?_;rintro _ _ ⟨rfl,rfl⟩
 refine R1 ?_
 refine Z7 ?_
 refine oi (os_call cb_57 rfl (fun w s=>GPeers_calls _ _ _  s )) ?_;rintro _ _ ⟨rfl,rfl⟩
 refine ol_pull12 ?_
 refine ol_pull12 ?_
 refine oi (os_call cb_58 rfl (fun w s=>PeKnown_calls _ _ _ _ _  s (by assumption))) ?_;rintro _ _ ⟨rfl,rfl⟩
 refine Z2v ?_
 refine R1 ?_
 refine Z7 ?_
 refine Z54 ?_
 refine ol_pull8 ?_
 refine Za3 ?_
 refine ol_pull12 ?_
 refine oi (os_call cb_60 rfl (fun w s=>Marks_calls _ _  s )) ?_;rintro _ _ ⟨rfl,rfl⟩
 refine oq (op_build (L:=[_,_,_,_,_,_]) (vs:=[(0,.int _ _),(1,.int _ _),(2,.int _ _),(3,.int _ _),(5,.int _ _)]) bB_70 rfl ⟨⟨rfl,rfl⟩,⟨rfl,rfl⟩,⟨rfl,rfl⟩,⟨rfl,rfl⟩,⟨rfl,rfl⟩,trivial⟩ rfl) ?_
 refine oi (os_alloc zB_70 rfl) ?_;rintro _ _ ⟨bx2,rfl,rfl⟩
 refine oN (os_storea (L':=[_,_,_,_,_,_]) ag_70 rfl rfl rfl (by simp [Value.oneCell']) rfl (Free.zero _) rfl) ?_;rintro _ _ ⟨rfl,rfl⟩
 refine R8 ?_
 refine cd_loop2 (α:=Nat) [(4,6),(26,42)] (fun x=>[(26,.int .i64 (x:Int))]) (fun _=>_) (fun x=>x≤64) (fun x=>64-x) 0 (Nat.zero_le _) ⟨rfl,trivial⟩ (fun _ s=>s) ?_
 rintro i hi f;(try dsimp only at hi ⊢)
 refine Z3 ?_ ?_
 ·intro hb1 hp1
  refine R11 ?_
  refine Zg ?_
  refine Z54 ?_
  refine Zg ?_
  refine Za3 ?_
  refine R1 ?_
  refine Zg ?_
  refine oi (os_call cb_61 rfl (fun w s=>TVote_calls _ _ _  s )) ?_;rintro _ _ ⟨rfl,rfl⟩;rw [hv]
  refine R3 ?_
  refine Z8o ?_;intro bx3
  refine Z66 ?_
  refine R7 ?_
  refine Z4 ?_ ?_
  ·intro hb2 hp2
   exact absurd hb2 (by simp)
  intro hb2 hp2
  refine R7 ?_
  refine px_loop2 (i+1) (by omega) (by (try dsimp only);omega) ⟨congrArg (Value.int .i64) (by simp),trivial⟩ ?_ (fun _ s=>(s.arr 16 [4,1,2,3,5,6,7,8,9,10,11,12,13,14,15]))
  exact Z0
 intro hb1 hp1
 refine R6 ?_
 refine oq (op_lda 0 ag_70 rfl rfl (by rfl) (by simp)) ?_
 refine ol_pull14 ?_
 refine oN (os_storea (L':=[_,_,_,_,_,_]) ag_70 rfl rfl rfl (by simp [Value.oneCell']) rfl (Free.zero _) rfl) ?_;rintro _ _ ⟨rfl,rfl⟩
 refine R3 ?_
 exact px_rv1 rfl (rv_cella (L:=[.int .i64 _,.int .i64 _,.int .i64 _,.int .i64 _,.int .i64 _,.int .i64 _]) 0 ag_70 rfl rfl (by rfl) (by simp)) (fun _ s=>(Sat.gateMk (s.arr 15 [4,12,13,3,11,14,2,9,10,7,8,5,6]))) ⟨_,_,_,_,_,rfl,rfl⟩
def bl2 (D:ChD):List GBlk:=[⟨D.r 0,Root.zero⟩,⟨D.r 1,D.r 0⟩]
theorem AChain_calls {w0 w:World} {l:List HProp} (A:GA) (C:Cfg) (xs:List Val) (now:Int) (tb:TabS) (K:List PItem) (D:ChD) (va:Option Addr) (vc:Nat) (n1 n2 n3 n4 n5 n6 n7 n8 n9 n10 n11:Int) (hs:Sat w0 w ((GateObj A C xs now (pathT D C.nodes 1) tb K)::l)) (hr:Rds w0 l encVal va xs) (hxl:xs.length≤64) (hv:∀ who:Int,tb.vote who=none) :
  Calls Tryz.prog 50 #[.pointer (some ⟨A.g,0,none⟩),.agg (cfgC ⟨⟨va,xs.length,vc⟩,n1,n2,n3,n4,n5,n6,n7,n8,n9,n10,n11⟩).toArray] w (Ret w0 fun v l'=>∃ ba bc,v=.agg #[.slice ba 2 bc,.slice none 0 0]∧l'=Row 125 encGBlk (.slice ba 2 bc) (bl2 D)::GateObj A C xs now (pathT D C.nodes 1) tb K::l):=by
 refine calls_enter Tryz.func50 rfl rfl rfl hs ?_
 refine Z5 ?_;intro bx1
 refine oi (os_alloc zB_120 rfl) ?_;rintro _ _ ⟨bx2,rfl,rfl⟩
 refine R3 ?_
 refine oi (os_alloc zB_120 rfl) ?_;rintro _ _ ⟨bx3,rfl,rfl⟩
 refine R2 ?_
 refine cd_pull3 ?_
 refine Z1y ?_
 refine R2 ?_
 refine Z54 ?_
 refine Zg ?_
 refine Z8r ?_
 refine R6 ?_
 refine ol_pull4 ?_
 refine Z9z ?_
 refine R4 ?_
 refine cd_imp (fun _ s=>Sat.rowNil (E:=encGBlk) (e:=125) s) ?_
 refine cd_loop2 (α:=Nat×Option Addr×Nat) [(7,11),(22,48)] (fun x=>[(22,.int .i64 (x.1:Int))]) (fun x=>Row 125 encGBlk (.slice x.2.1 ((bl2 D).take x.1).length x.2.2) ((bl2 D).take x.1)::Blk bx3 (.cells #[.slice x.2.1 ((bl2 D).take x.1).length x.2.2,.slice none 0 0] 120 (0,0))::Blk A.g (.cells #[.slice A.a xs.length A.c,.int .i64 C.epoch,.int .i64 C.committee,.int .i64 C.nodes,.int .i64 C.orphans,.int .i64 C.early,.int .i64 C.quota,.int .i64 C.peers,.int .i64 C.bytes,.int .i64 C.window,.int .i64 C.ban,.int .i64 C.decay,.pointer (some ⟨A.ck,0,none⟩),.pointer (some ⟨A.bk,0,none⟩),.pointer (some ⟨A.or,0,none⟩),.pointer (some ⟨A.ea,0,none⟩),.pointer (some ⟨A.pe,0,none⟩),.int .i64 0] 82 (0,0))::Row 64 encVal (.slice A.a xs.length A.c) xs::Blk A.ck (.cells #[.int .i64 now,.int .i64 C.window] 154 (0,0))::Blk A.bk (.cells #[.slice A.a xs.length A.c,.int .i64 C.epoch,.int .i64 C.committee,.int .i64 C.nodes,.int .i64 C.orphans,.int .i64 C.early,.int .i64 C.quota,.int .i64 C.peers,.int .i64 C.bytes,.int .i64 C.window,.int .i64 C.ban,.int .i64 C.decay,.pointer (some ⟨A.tr,0,none⟩),.pointer (some ⟨A.w,0,none⟩),.pointer (some ⟨A.tb,0,none⟩)] 103 (0,0))::TreeObj A.tr (pathT D C.nodes 1)::WObj A.w A.tr ((pathT D C.nodes 1)).nodes (ownE xs (effT tb) ((pathT D C.nodes 1)).nodes)::TabObj A.tb tb::Blk A.or (.cells #[.pointer (some ⟨A.po,0,none⟩)] 111 (0,0))::PoolObj A.po C.orphans C.quota K::Blk A.ea (.cells #[.pointer (some ⟨A.pq,0,none⟩)] 163 (0,0))::PoolObj A.pq C.early C.quota []::Blk A.pe (.cells #[.map (some A.mp),.int .i64 C.peers,.int .i64 C.ban,.int .i64 C.decay,.int .i64 0] 157 (0,0))::MapO EVI EVI A.mp ([]:List (Int×Int))::Blk bx2 (.cells #[.slice none 0 0,.slice none 0 0] 120 (0,0))::Blk bx1 (.cells (cfgC ⟨⟨va,xs.length,vc⟩,n1,n2,n3,n4,n5,n6,n7,n8,n9,n10,n11⟩).toArray 24 (0,0))::l) (fun x=>x.1≤2) (fun x=>2-x.1) (0,none,0) (Nat.zero_le _) ⟨rfl,trivial⟩ (fun _ s=>(s.arr 17 [0,14,3,4,5,2,1,6,7,8,9,10,11,12,13,15,16])) ?_
 rintro ⟨i,b1,d1⟩ hi f;(try dsimp only at hi ⊢)
 refine Z3 ?_ ?_
 ·intro hb1 hp1
  have hi2:i<2:=by have h:=of_decide_eq_true hb1;rw [path_len] at h;omega
  have e1:((bl2 D).take i)++[⟨(((pathT D C.nodes 1).node (i:Int)).getD nodeNo).root,(((pathT D C.nodes 1).node (((pathT D C.nodes 1).node (i:Int)).getD nodeNo).parent).getD nodeNo).root⟩]=((bl2 D).take (i+1)):=by rcases (show i=0∨i=1 by omega) with rfl | rfl<;>rfl
  refine R12 ?_
  refine ol_pull6 ?_
  refine Z92 ?_
  refine R3 ?_
  refine Z3u ?_;intro bx4
  refine Z36 ?_
  refine R7 ?_
  refine Z2 ?_
  refine Z92 ?_
  refine R3 ?_
  refine Z3u ?_;intro bx5
  refine Z36 ?_
  refine R10 ?_
  refine oq (op_build (L:=gBlkC _) (vs:=[(0,.agg (rootC _).toArray),(1,.agg (rootC _).toArray)]) bB_125 rfl ⟨⟨by simp [Value.cells,rootC_len],by rw [gBlkC_len];rfl⟩,⟨by simp [Value.cells,rootC_len],by rw [gBlkC_len];rfl⟩,trivial⟩ ((gBlkC_b0 _ _ _).trans ((gBlkC_b1 _ _ _).trans rfl))) ?_
  refine oi (os_bslice (E:=encGBlk) [_] (ys:=[_]) sB_117 zv_125 rfl rfl rfl rfl (by decide)) ?_;rintro _ _ ⟨ao1,rfl,rfl⟩
  refine ol_pull4 ?_
  refine oi (os_append (E:=encGBlk) rfl sB_117 zv_125 rfl rfl rfl (fun w s=>(rds_row 1 rfl rfl) [] w s) rfl (by rw [List.length_take];show _*64≤_;simp;omega) (by unfold maxLen;rw [List.length_take];simp;omega)) ?_;rintro _ _ ⟨ao2,ac2,rfl,rfl⟩
  refine R1 ?_
  refine ol_pull5 ?_
  refine oN (os_store (v:=.slice _ _ _) sc_117 rfl rfl rfl rfl (Free.zero _) rfl) ?_;rintro _ _ ⟨rfl,rfl⟩
  refine R7 ?_
  refine px_loop2 (i+1,ao2,ac2) (by (try dsimp only);omega) (by (try dsimp only);omega) ⟨congrArg (Value.int .i64) (by simp),trivial⟩ ?_ (fun _ s=>(by (try dsimp only);rw [←e1];exact (s.arr 20 [1,0,6,7,8,9,4,10,11,12,13,14,15,16,17,18,19])))
  exact Z0
 intro hb1 hp1
 obtain rfl:i=2:=by have h:=of_decide_eq_false hb1;rw [path_len] at h;omega
 refine R7 ?_
 refine Z7 ?_
 refine Z54 ?_
 refine ol_pull5 ?_
 refine Za3 ?_
 refine R6 ?_
 refine oq (op_ld 16 sc_22 rfl rfl (show (cfgC _).toArray[0]? = some (.slice va xs.length vc) from cfgC_a0 _)) ?_
 refine Z2d ?_
 refine R4 ?_
 refine cd_loop2 (α:=Nat) [(13,16),(55,82)] (fun x=>[(55,.int .i64 (x:Int))]) (fun _=>_) (fun x=>x≤xs.length) (fun x=>xs.length-x) 0 (Nat.zero_le _) ⟨rfl,trivial⟩ (fun _ s=>s) ?_
 rintro q hq f;(try dsimp only at hq ⊢)
 refine Z3 ?_ ?_
 ·intro hb2 hp2
  refine R6 ?_
  refine oq (op_index _ sB_22 rfl rfl rfl (((((((((((((((((hr.cons _).cons _).cons _).cons _).cons _).cons _).cons _).cons _).cons _).cons _).cons _).cons _).cons _).cons _).cons _).cons _).cons _) rfl (by omega)) ?_
  refine oq (op_ldaw (L:=valC _) ag_64 (((((((((((((((((hr.cons _).cons _).cons _).cons _).cons _).cons _).cons _).cons _).cons _).cons _).cons _).cons _).cons _).cons _).cons _).cons _).cons _) rfl (by omega) rfl (valC_ta _)) ?_
  refine Z5h ?_;intro bx6
  refine R1 ?_
  refine Z5i ?_
  refine R5 ?_
  refine ol_pull9 ?_
  refine oi (os_call cb_61 rfl (fun w s=>TVote_calls _ _ _  s )) ?_;rintro _ _ ⟨rfl,rfl⟩;rw [hv]
  refine R3 ?_
  refine Z8o ?_;intro bx7
  refine Z66 ?_
  refine R6 ?_
  refine ols 67 rfl ?_ ?_
  ·intro hb3 hp3
   exact absurd hb3 (by simp)
  intro hb3 hp3
  refine Z1b ?_
  refine Z4u ?_
  refine Z1v ?_
  refine Z2o ?_
  refine px_loop2 (q+1) (by omega) (by (try dsimp only);omega) ⟨congrArg (Value.int .i64) (by simp),trivial⟩ ?_ (fun _ s=>(s.arr 19 [3,4,5,6,7,8,9,10,1,11,12,13,14,15,16,17,18]))
  exact Z0
 intro hb2 hp2
 refine R6 ?_
 refine oq (op_lda 3 ag_120 rfl rfl (by rfl) (by simp)) ?_
 refine ol_pull15 ?_
 refine oN (os_storea (L':=[_,_]) ag_120 rfl rfl rfl (by simp [Value.oneCell']) rfl (Free.zero _) rfl) ?_;rintro _ _ ⟨rfl,rfl⟩
 refine R3 ?_
 exact px_rv1 rfl (rv_cella (L:=[.slice _ _ _,.slice _ _ _]) 0 ag_120 rfl rfl (by rfl) (by simp)) (fun _ s=>(Sat.gateMk (s.arr 17 [2,5,6,1,7,8,9,10,11,12,13,14,15,3])).pull 1) ⟨_,_,rfl,rfl⟩
theorem AGood_calls {w0 w:World} {l:List HProp} (A:GA) (C:Cfg) (xs:List Val) (now:Int) (tb:TabS) (K:List PItem) (D:ChD) (va:Option Addr) (vc:Nat) (n1 n2 n3 n4 n5 n6 n7 n8 n9 n10 n11:Int) (hs:Sat w0 w ((GateObj A C xs now (pathT D C.nodes 1) tb K)::l)) (hr:Rds w0 l encVal va xs) (hxl:xs.length≤64) (hv:∀ who:Int,tb.vote who=none) :
  Calls Tryz.prog 21 #[.pointer (some ⟨A.g,0,none⟩),.agg (cfgC ⟨⟨va,xs.length,vc⟩,n1,n2,n3,n4,n5,n6,n7,n8,n9,n10,n11⟩).toArray] w (Ret w0 fun v l'=>v=.bool true∧l'=GateObj A C xs now (pathT D C.nodes 1) tb K::l):=by
 refine calls_enter Tryz.func21 rfl rfl rfl hs ?_
 refine Z5 ?_;intro bx1
 refine R6 ?_
 refine Z2 ?_
 refine oi (os_call cb_50 rfl (fun w s=>AChain_calls _ _ _ _ _ _ _ _ _ _ _ _ _ _ _ _ _ _ _ _  s (hr.cons _) (by omega) (by assumption))) ?_;rintro _ _ ⟨ba1,bc1,rfl,rfl⟩
 refine oi (os_alloc zB_120 rfl) ?_;rintro _ _ ⟨bx2,rfl,rfl⟩
 refine oN (os_storea (L':=[_,_]) ag_120 rfl rfl rfl (by simp [Value.oneCell']) rfl (Free.zero _) rfl) ?_;rintro _ _ ⟨rfl,rfl⟩
 refine R2 ?_
 refine cd_pull2 ?_
 refine Z1y ?_
 refine R1 ?_
 refine cd_draw (M:=[]) mx [7] (by kernel_rfl) ?_
 refine R1 ?_
 refine Z7f ?_
 refine R1 ?_
 refine rg_soft (wn_none rfl) cb_14 ci_14 (fun M=>os_call cb_14 rfl (fun w s=>GBook_calls _ _ _  s )) ?_
 refine Z7f ?_
 refine rg_q (wn_none rfl) (op_lda 13 ag_120 rfl rfl (by rfl) (by simp)) rfl rfl ?_
 refine Z7f ?_
 refine rg_i (wn_none rfl) (os_bslice (E:=encFn) [_,_,_] (ys:=[⟨17,[.pointer (some ⟨A.g,0,none⟩)]⟩,⟨42,[.pointer (some ⟨A.bk,0,none⟩)]⟩,⟨51,[.agg #[.slice ba1 2 bc1,.slice none 0 0]]⟩]) sB_122 zv_58 rfl rfl rfl rfl (by decide)) rfl rfl ?_;rintro _ _ ⟨ao1,rfl,rfl⟩;refine ⟨[_],rfl,?_⟩
 refine Z2y ?_
 refine R1 ?_
 refine cd_ord 17 [1,2,3,4,5,6,7,8,9,10,11,12,13,0,14,15,16] ?_
 refine cd_imp (fun _ s=>Sat.gateMk s) ?_
 refine R2 ?_
 refine oq (op_len_slice Tryz.underlying122 rfl) ?_
 refine R4 ?_
 refine cd_loop2 (α:=Nat) [(4,4),(8,8),(25,34)] (fun x=>[(25,.int .i64 (x:Int))]) (fun _=>_) (fun x=>x≤3) (fun x=>3-x) 0 (Nat.zero_le _) ⟨rfl,trivial⟩ (fun _ s=>s) ?_
 rintro i hi f;(try dsimp only at hi ⊢)
 refine Z3 ?_ ?_
 ·intro hb1 hp1
  have hi3:i<3:=by have h:=of_decide_eq_true hb1;simp at h;omega
  refine R4 ?_
  obtain rfl | rfl | rfl:i=0∨i=1∨i=2:=by omega
  ·
   refine R1 ?_
   refine Za6 ?_
   refine Z5f ?_
   refine R3 ?_
   refine Za8 ?_
   refine rg_i (wn_none rfl) (os_callvB (F:=[_]) (vs:=[]) cb_17 rfl rfl (fun w s=>GHead_calls _ _ _ _ _ _ _  s (by rw [path_len];exact Nat.succ_pos _))) rfl rfl ?_;rintro _ _ ⟨rfl,rfl⟩;refine ⟨[],rfl,?_⟩
   refine Zc8 ?_
   refine rg_q (wn_none rfl) (op_neroot _ _ rB_35 rfl rfl) rfl rfl ?_
   refine Zu ?_
   refine Z4 ?_ ?_
   ·intro hb2 hp2
    exact absurd (of_decide_eq_true hb2) (fun h=>h (head_path 1 (by rw [ownE_len,path_len])))
   intro hb2 hp2
   refine R7 ?_
   refine px_loop2 1 (by decide) (by decide) ⟨rfl,trivial⟩ ?_ (fun _ s=>s)
   exact Z0
  ·
   refine R1 ?_
   refine Za6 ?_
   refine Z5f ?_
   refine R2 ?_
   refine Z1y ?_
   refine R1 ?_
   refine Za8 ?_
   refine rg_i (wn_none rfl) (os_back (os_pull5 (os_pull5 (os_pull5 (os_callvB (F:=[_]) (vs:=[]) cb_42 rfl rfl (fun w s=>BHead_calls _ _ _ _ _ _ _ _ _ _ _ _ _ _ _ _ _ _ _ _  s (by rw [ownE_len];exact Nat.le_refl _) (by rw [ownE_len,path_len];exact Nat.succ_pos _)))))) (fun _ s=>(((s.push 5).push 5).push 5))) rfl rfl ?_;rintro _ _ ⟨rfl,rfl⟩;refine ⟨[],rfl,?_⟩
   refine rg_q (wn_none rfl) (op_lda 14 ag_120 rfl rfl (by rfl) (by simp)) rfl rfl ?_
   refine rg_soft (wn_none rfl) cb_51 ci_51 (fun M=>os_call cb_51 rfl (fun w s=>GHeadC_calls _ _ _ _  s (rds_row 15 rfl rfl) rfl)) ?_
   refine rg_q (wn_none rfl) (op_neroot _ _ rB_35 rfl rfl) rfl rfl ?_
   refine Zu ?_
   refine Z4 ?_ ?_
   ·intro hb3 hp3
    exact absurd (of_decide_eq_true hb3) (fun h=>h (head_path 1 (by rw [ownE_len,path_len])))
   intro hb3 hp3
   refine R3 ?_
   refine cd_imp (fun _ s=>Sat.gateMk s) ?_
   refine R4 ?_
   refine px_loop2 2 (by decide) (by decide) ⟨rfl,trivial⟩ ?_ (fun _ s=>s)
   exact Z0
  refine R1 ?_
  refine Za6 ?_
  refine Z5f ?_
  refine R3 ?_
  refine Za8 ?_
  refine rg_i (wn_none rfl) (os_callvB (F:=[_]) (vs:=[]) cb_51 rfl rfl (fun w s=>GHeadC_calls _ _ _ _  s (rds_row 3 rfl rfl) rfl)) rfl rfl ?_;rintro _ _ ⟨rfl,rfl⟩;refine ⟨[],rfl,?_⟩
  refine Zc8 ?_
  refine rg_q (wn_none rfl) (op_neroot _ _ rB_35 rfl rfl) rfl rfl ?_
  refine Zu ?_
  refine Z4 ?_ ?_
  ·intro hb4 hp4
   exact absurd rfl (of_decide_eq_true hb4)
  intro hb4 hp4
  refine R7 ?_
  refine px_loop2 3 (by decide) (by decide) ⟨rfl,trivial⟩ ?_ (fun _ s=>s)
  exact Z0
 intro hb1 hp1
 refine R5 ?_
 refine Z1y ?_
 refine R1 ?_
 refine cd_draw (M:=[]) mx [5] (by kernel_rfl) ?_
 refine rg_q (wn_none rfl) (op_lda 14 ag_120 rfl rfl (by rfl) (by simp)) rfl rfl ?_
 refine Z7f ?_
 refine R1 ?_
 refine rg_soft (wn_none rfl) cb_14 ci_14 (fun M=>os_call cb_14 rfl (fun w s=>GBook_calls _ _ _  s )) ?_
 refine Z7f ?_
 refine rg_i (wn_none rfl) (os_bslice (E:=encFn) [_,_] (ys:=[⟨52,[.agg #[.slice ba1 2 bc1,.slice none 0 0]]⟩,⟨53,[.pointer (some ⟨A.bk,0,none⟩)]⟩]) sB_123 zv_57 rfl rfl rfl rfl (by decide)) rfl rfl ?_;rintro _ _ ⟨ao2,rfl,rfl⟩;refine ⟨[_],rfl,?_⟩
 refine Z2y ?_
 refine R3 ?_
 refine oq (op_ld 15 sc_117 rfl rfl rfl) ?_
 refine oq (op_len_slice Tryz.underlying117 rfl) ?_
 refine R4 ?_
 refine cd_loop2 (α:=Nat) [(4,4),(11,11),(44,61)] (fun x=>[(44,.int .i64 (x:Int))]) (fun _=>_) (fun x=>x≤2) (fun x=>2-x) 0 (Nat.zero_le _) ⟨rfl,trivial⟩ (fun _ s=>s) ?_
 rintro q hq f;(try dsimp only at hq ⊢)
 refine Z3 ?_ ?_
 ·intro hb5 hp5
  have hq2:q<2:=by have h:=of_decide_eq_true hb5;omega
  refine R5 ?_
  refine oq (op_index _ sB_117 rfl rfl rfl (rds_row 16 rfl rfl) rfl (by show q<2;omega)) ?_
  refine oq (op_ldaw (L:=gBlkC _) ag_125 (rds_row 16 rfl rfl) rfl (by show q<2;omega) rfl (gBlkC_ta _)) ?_
  refine oi (os_alloc (cs:=(gBlkC GBlk.zero).toArray) zB_125 (by kernel_rfl)) ?_;rintro _ _ ⟨bx3,rfl,rfl⟩
  refine oN (os_storew (gBlkC _) ag_125 rfl rfl (gBlkC_len _) (gBlkC_one _) (by simp [gBlkC_len]) (Free.zero _)) ?_;rintro _ _ ⟨rfl,rfl⟩
  refine R3 ?_
  refine cd_draw (M:=[]) mx [5,11] (by kernel_rfl) ?_
  refine R1 ?_
  refine rg_q (wn_none rfl) (op_index 0 sB_123 rfl rfl rfl (rds_row 1 rfl rfl) rfl (by simp)) rfl rfl ?_
  refine rg_q (wn_none rfl) (op_ldw sc_57 (rds_row 1 rfl rfl) rfl (by simp) rfl) rfl rfl ?_
  refine R2 ?_
  refine rg_i (wn_none rfl) (os_callvB (F:=[_]) (vs:=[_]) cb_52 rfl rfl (fun w s=>GWeight_calls _ _ _ _ _  s (rds_row 17 rfl rfl) rfl)) rfl rfl ?_;rintro _ _ ⟨rfl,rfl⟩;refine ⟨[],rfl,?_⟩
  refine R1 ?_
  refine rg_q (wn_none rfl) (op_index 1 sB_123 rfl rfl rfl (rds_row 1 rfl rfl) rfl (by simp)) rfl rfl ?_
  refine rg_q (wn_none rfl) (op_ldw sc_57 (rds_row 1 rfl rfl) rfl (by simp) rfl) rfl rfl ?_
  refine R2 ?_
  refine rg_i (wn_none rfl) (os_back (os_pull7 (os_pull7 (os_pull7 (os_callvB (F:=[_]) (vs:=[_]) cb_53 rfl rfl (fun w s=>BWeight_calls _ _ _ _ _ _ _ _ _ _ _ _ _ _ _ _ _ _ _ _ _  s ))))) (fun _ s=>(((s.push 7).push 7).push 7))) rfl rfl ?_;rintro _ _ ⟨rfl,rfl⟩;refine ⟨[],rfl,?_⟩
  refine Z1z ?_
  refine Z4 ?_ ?_
  ·intro hb6 hp6
   exact absurd (of_decide_eq_true hb6) (fun h=>h (of0 (sum0 (own0 hv)) _).symm)
  intro hb6 hp6
  refine R7 ?_
  refine px_loop2 (q+1) (by omega) (by (try dsimp only);omega) ⟨congrArg (Value.int .i64) (by simp),trivial⟩ ?_ (fun _ s=>(s.del 0))
  exact Z0
 intro hb5 hp5
 refine R10 ?_
 exact px_ret1 rfl (v:=.bool true) rfl (fun _ s=>(Sat.gateMk (s.arr 18 [1,2,3,4,5,6,7,8,9,10,11,12,13]))) ⟨rfl,rfl⟩
def alQ2:Cfg:=⟨⟨none,1,1⟩,4,1,9,1,1,1,1,99,1,9,1⟩
def alR:Root:=rootG alQ2 alX
def alT:Tag:=(tagM alX 1 1 1 alR 0 0 []).1
def alD:ChD:=⟨fun k=>if k=0 then alR else rtB 1 alR 0 alT,fun _=>0,fun _=>alT,2⟩
theorem alA_0 (ao:Option Addr) (m k:Nat):shaM ([116,111,108,108,101,114]++bytesC ⟨⟨ao,m,k⟩,4,1,9,1,1,1,1,99,1,9,1⟩ alX)=alR:=rfl
theorem alA_t (ao:Option Addr) (m k:Nat):TreeS.new (rootG ⟨⟨ao,m,k⟩,4,1,9,1,1,1,1,99,1,9,1⟩ alX) 0 9=pathT alD 9 0:=rfl
theorem alA_g (ao:Option Addr) (m k:Nat):goodC ⟨⟨ao,m,k⟩,4,1,9,1,1,1,1,99,1,9,1⟩ alX=true:=by simp [goodC,numsC,inR,totF,valOK,alX]
theorem alA_gb:GoodB 1 0:=⟨by decide,by decide,by decide,by decide⟩
theorem alA_sp:spk 1 1 1 1 0 0 []=([0],true):=by
  have hm:memI 1 1 1=[0]:=rfl
  rw [spk_one (alA_gb.good) (by decide),hm];rfl
theorem alA_tg:tagM alX 1 1 1 alR 0 0 []=(alT,true):=by
  have h:(tagM alX 1 1 1 alR 0 0 []).2=true:=by
    unfold tagM
    rw [if_pos (by rw [show alX.length=1 from rfl,alA_sp])]
  exact Prod.ext rfl h
theorem alA_ne:alR≠rtB 1 alR 0 alT:=by decide +kernel
theorem alA_D:alD.OK alX 1 1 where
  rt k h1 h2:=by
    obtain rfl:k=1:=by omega
    rfl
  sg k h1 h2:=by
    obtain rfl:k=1:=by omega
    exact ⟨alA_gb,alA_tg⟩
  inj i j h1 h2 he:=by
    rcases (show i=0∨i=1 by omega) with rfl | rfl<;>rcases (show j=0∨j=1 by omega) with rfl | rfl
    · rfl
    · exact absurd he alA_ne
    · exact absurd he.symm alA_ne
    · rfl
  n30:=by decide
theorem alA_q:∀ y∈alX,I64 y.stake∧y.key.length≤maxLen:=by
  intro y hy
  obtain rfl:=List.mem_singleton.1 hy
  exact ⟨by unfold I64;decide,by decide⟩
theorem fill_m3 (k sl:Int) (tg:Root):fill2 [(0,1),(1,1),(2,32),(34,1),(35,1),(36,1),(37,16)] (msgC Msg.zero) [(0,.int .i64 k),(1,.int .i64 sl),(2,.agg (rootC tg).toArray)]=msgC ⟨k,sl,tg,0,0,⟨none,0,0⟩,Tag.zero⟩ :=
 (msgC_b0 _ _ _).trans ((msgC_b1 _ _ _).trans ((msgC_b2 _ _ _).trans rfl))
/-- a scalar field of a struct that is held -/
def fldvB (P:Program) (T i:Nat):Option Nat :=
 match P.underlying T with
 | some (.struct fs)=>match fs[i]? with
  | some fd=>if scalarB P fd.type=true then some fd.offset else none
  | none=>none
 | _=>none
theorem op_fieldv {P:Program} {w0:World} {n:Nat} {f:Fr} {l:List HProp} {d:Option Tmp} {ty:TypeId} {pos:String} {aft:Array Edge} {g:Option (Nat×Bool)} {T i k:Nat} {x:Operand} {cs:Array Value} {v:Value} (hB:fldvB P T i=some k) (hx:ev f x=.agg cs) (hv:cs[k]? = some v):OP P w0 n ⟨d,.field T x i,ty,pos,aft,g⟩ f l v:=fun M a w r s=>by
 unfold fldvB at hB
 split at hB
 ·rename_i fs hu
  split at hB
  ·rename_i fd hf
   split at hB
   ·rename_i hs
    cases hB
    have h1:=isAgg_scalar hs w
    simp [execOp,r.eval,hx,Instr.field,run_underlying hu,hf,asAgg,part,Sem.run_bind,h1.1,hv]
   ·cases hB
  ·cases hB
 ·cases hB
theorem Alive_calls {w0 w:World} {l:List HProp}  (hs:Sat w0 w (l)) (hd0:w0.drawn=0) :
  Calls Tryz.prog 4 #[] w (Ret w0 fun v l'=>v=.bool true∧l'=l):=by
 refine calls_enter Tryz.func4 rfl rfl rfl hs ?_
 refine R5 ?_
 refine oq (op_build (L:=valC ⟨5,[107]⟩) (vs:=[(0,.int _ _),(1,.string _)]) bB_64 rfl ⟨⟨rfl,by rw [valC_len];rfl⟩,⟨rfl,by rw [valC_len];rfl⟩,trivial⟩ (by simp [fill2,valC,Val.zero,SlV.v,B,Value.cells])) ?_
 refine oi (os_bslice (E:=encVal) [_] (ys:=alX) sB_22 zv_64 rfl rfl rfl rfl (by decide)) ?_;rintro _ _ ⟨ao1,rfl,rfl⟩
 refine oq (op_build (L:=cfgC ⟨⟨ao1,1,1⟩,4,1,9,1,1,1,1,99,1,9,1⟩) (vs:=[(0,(SlV.v ⟨_,_,_⟩)),(1,.int _ _),(2,.int _ _),(3,.int _ _),(4,.int _ _),(5,.int _ _),(6,.int _ _),(7,.int _ _),(8,.int _ _),(9,.int _ _),(10,.int _ _),(11,.int _ _)]) bB_24 rfl ⟨⟨rfl,by rw [cfgC_len];rfl⟩,⟨rfl,by rw [cfgC_len];rfl⟩,⟨rfl,by rw [cfgC_len];rfl⟩,⟨rfl,by rw [cfgC_len];rfl⟩,⟨rfl,by rw [cfgC_len];rfl⟩,⟨rfl,by rw [cfgC_len];rfl⟩,⟨rfl,by rw [cfgC_len];rfl⟩,⟨rfl,by rw [cfgC_len];rfl⟩,⟨rfl,by rw [cfgC_len];rfl⟩,⟨rfl,by rw [cfgC_len];rfl⟩,⟨rfl,by rw [cfgC_len];rfl⟩,⟨rfl,by rw [cfgC_len];rfl⟩,trivial⟩ (by simp [fill2,cfgC,Cfg.zero,SlV.v,B,Value.cells])) ?_
 refine oi (os_alloc (cs:=(cfgC Cfg.zero).toArray) zB_24 (by kernel_rfl)) ?_;rintro _ _ ⟨bx1,rfl,rfl⟩
 refine oN (os_storew (cfgC _) ag_24 rfl rfl (cfgC_len _) (cfgC_one _) (by simp [cfgC_len]) (Free.zero _)) ?_;rintro _ _ ⟨rfl,rfl⟩
 refine R2 ?_
 have hgg:=alA_g ao1 alX.length 1
 have hGK:=gok_of hgg
 have hqq:=alA_q
 have hgb:=alA_gb
 have hok:(tagM alX 1 1 1 alR 0 0 []).2=true:=by rw [alA_tg]
 have hok1:(tagM alX 1 1 1 alR 0 0 []).1=alT:=rfl
 have hkk:∀ y∈alX,y.key.length≤32:=by decide
 have hlt:=tab0_len alX.length 4
 have hfg:=tab0_forget alX.length 4
 have hv:=tab0_vote alX.length 4
 refine R2 ?_
 refine oi (os_call cb_20 rfl (fun w s=>GNewS_calls (ao:=ao1) (c:=1) (xs:=alX) (n1:=4) (n2:=1) (n3:=9) (n4:=1) (n5:=1) (n6:=1) (n7:=1) (n8:=99) (n9:=1) (n10:=9) (n11:=1)  s hgg (rds_row 1 rfl rfl) hqq)) ?_;rintro _ _ ⟨A,rfl,rfl⟩;rw [alA_t]
 refine R12 ?_
 refine ols 17 rfl ?_ ?_
 ·intro hb1 hp1
  exact absurd hb1 (by simp)
 intro hb1 hp1
 refine Z3q ?_
 refine ol_i (wn_some rfl rfl rfl hb1 rfl) (os_call cb_8 rfl (fun w s=>GTick_calls _ _ _ _ _ _ _  s hGK hlt (by decide) hfg)) rfl ?_;rintro _ _ ⟨rfl,rfl⟩
 refine Z6i ?_
 refine Zf ?_
 refine Zi ?_
 refine R3 ?_
 refine cd_draw (M:=[]) mx [8,9] (by kernel_rfl) ?_
 refine R2 ?_
 refine rg_soft (wn_none rfl) cb_7 ci_7 (fun M=>os_call cb_7 rfl (fun w s=>RRoot_calls (ao:=ao1) (c:=1) (xs:=alX) (n1:=4) (n2:=1) (n3:=9) (n4:=1) (n5:=1) (n6:=1) (n7:=1) (n8:=99) (n9:=1) (n10:=9) (n11:=1)  s (rds_row 2 rfl rfl) (by decide) hkk)) ?_
 rw [alA_0]
 refine rg_q (wn_none rfl) (op_build (L:=msgC ⟨1,1,alR,0,0,⟨none,0,0⟩,Tag.zero⟩) (vs:=[(0,.int _ _),(1,.int _ _),(2,.agg (rootC _).toArray)]) bB_46 rfl ⟨⟨rfl,by rw [msgC_len];rfl⟩,⟨rfl,by rw [msgC_len];rfl⟩,⟨by simp [Value.cells,rootC_len],by rw [msgC_len];rfl⟩,trivial⟩ (fill_m3 _ _ _)) rfl rfl ?_
 refine rg_soft (wn_none rfl) cb_10 ci_10 (fun M=>os_call cb_10 rfl (fun w s=>RSign_calls (ao:=ao1) (c:=1) (xs:=alX) (n1:=4) (n2:=1) (n3:=9) (n4:=1) (n5:=1) (n6:=1) (n7:=1) (n8:=99) (n9:=1) (n10:=9) (n11:=1) (k:=1) (sl:=1) (tg:=alR) (mb:=0) (bd:=0) (bo:=none) (bc:=0) (bits:=[]) (tag:=Tag.zero)  s (by decide) (by decide) (rds_row 2 rfl rfl) (rds_nil _) (by decide) (by decide) hkk)) ?_
 rw [if_pos hok,hok1]
 refine R3 ?_
 refine rg_i (wn_none rfl) (os_alloc (cs:=(msgC Msg.zero).toArray) zB_46 (by kernel_rfl)) rfl rfl ?_;rintro _ _ ⟨bx2,rfl,rfl⟩;refine ⟨[_],rfl,?_⟩
 refine Zbx ?_
 refine Z2y ?_
 refine R2 ?_
 refine oi (os_call cb_11 rfl (fun w s=>RBytesB_calls _ _ _ _ _ _  s (by assumption))) ?_;rintro _ _ ⟨rfl,rfl⟩
 refine R3 ?_
 refine cd_pull1 ?_
 refine R1 ?_
 refine cd_drawe (M:=[_]) mx [2,6,8,14,18] ?_
 refine Z4t ?_
 refine e_q 1 rfl (wn_none rfl) (op_move (v:=.string _) rfl) ?_
 refine Z4y ?_
 refine ei_i rfl rfl (wn_none rfl) (os_call cb_13 rfl (fun w s=>GDeliver_calls (D:=alD) (n:=1) (j:=0) (m:=0) (b:=1) _ _ _ _ _  s hGK hlt alA_D ⟨(by show (1:Int)<9;decide),(by show (1:Int)≤1;decide),(by show (1:Int)≤1;decide)⟩ (by decide) (by decide) (by show (63:Int)≤99;decide) (by unfold I64;decide))) rfl ?_;rintro _ _ ⟨rfl,rfl⟩;rw [if_pos (show (1:Nat)=0+1 from rfl),if_pos (show (1:Nat)=0+1 from rfl),if_pos (show (1:Nat)=0+1 from rfl)];refine ⟨[_],rfl,?_⟩
 refine e_q 3 rfl (wn_none rfl) (op_eq rfl rfl) ?_
 refine e_q 4 rfl (wn_none rfl) (op_move (v:=.bool _) rfl) ?_
 refine ets 36 rfl ?_ ?_
 ·intro hb2 hp2
  refine e_q 5 rfl (wn_some rfl rfl rfl hb2 rfl) (op_move (v:=.pointer _) rfl) ?_
  refine e_q 7 rfl (wn_some rfl rfl rfl hb2 rfl) (op_lda (L:=msgC _) 0 ag_46 rfl rfl (msgC_ta _) (by simp [msgC_len])) ?_
  refine Zs ?_
  refine ei_i rfl rfl (wn_some rfl rfl rfl hb2 rfl) (os_call cb_17 rfl (fun w s=>GHead_calls _ _ _ _ _ _ _  s (by rw [path_len];exact Nat.succ_pos _))) rfl ?_;rintro _ _ ⟨rfl,rfl⟩;rw [head_path (1+0) (by rw [ownE_len,path_len])];refine ⟨[_],rfl,?_⟩
  refine Zw ?_
  refine ei_i rfl rfl (wn_some rfl rfl rfl hb2 rfl) (os_call cb_12 rfl (fun w s=>RRootB_calls _ _ _ _ _ _  s (by assumption))) rfl ?_;rintro _ _ ⟨rfl,rfl⟩;refine ⟨[_],rfl,?_⟩
  refine e_q 9 rfl (wn_some rfl rfl rfl hb2 rfl) (op_eqroot _ _ rB_35 rfl rfl) ?_
  refine e_q 10 rfl (wn_none rfl) (op_pick_t (v:=.bool _) rfl hb2 rfl) ?_
  refine e_q 11 rfl (wn_none rfl) (op_move (v:=.bool _) rfl) ?_
  refine ets 43 rfl ?_ ?_
  ·intro hb3 hp3
   refine e_q 12 rfl (wn_some rfl rfl rfl hb3 rfl) (op_move (v:=.pointer _) rfl) ?_
   refine e_q 13 rfl (wn_some rfl rfl rfl hb3 rfl) (op_lda (L:=cfgC _) 1 ag_24 rfl rfl (cfgC_ta _) (by simp [cfgC_len])) ?_
   refine Z3h ?_
   refine ei_i rfl rfl (wn_some rfl rfl rfl hb3 rfl) (os_call cb_21 rfl (fun w s=>by have q:=AGood_calls (D:=alD) (xs:=alX) (va:=ao1) (vc:=1) (n1:=4) (n2:=1) (n3:=9) (n4:=1) (n5:=1) (n6:=1) (n7:=1) (n8:=99) (n9:=1) (n10:=9) (n11:=1) _ _ _ _ _  s (rds_row 2 rfl rfl) (by decide) hv;exact q)) rfl ?_;rintro _ _ ⟨rfl,rfl⟩;refine ⟨[_],rfl,?_⟩
   refine e_q 15 rfl (wn_none rfl) (op_pick_t (v:=.bool _) rfl hb3 rfl) ?_
   refine e_q 16 rfl (wn_none rfl) (op_move (v:=.bool _) rfl) ?_
   refine e_q 17 rfl (wn_some rfl rfl rfl rfl rfl) (op_move (v:=.pointer _) rfl) ?_
   refine et_1 (i:=18) (by kernel_rfl) ?_
   refine ei_i rfl rfl (wn_some rfl rfl rfl rfl rfl) (os_call cb_22 rfl (fun w s=>SizeOf_calls _ _ _ _ _ _ _  s hd0 hv)) rfl ?_;rintro _ _ ⟨sq1,sq2,sq3,sq4,sq5,rfl,rfl⟩;refine ⟨[_],rfl,?_⟩
   refine e_q 19 rfl (wn_some rfl rfl rfl rfl rfl) (op_fieldv (k:=0) (by kernel_rfl) rfl rfl) ?_
   refine e_q 20 rfl (wn_some rfl rfl rfl rfl rfl) (op_eq rfl rfl) ?_
   refine e_q 21 rfl (wn_none rfl) (op_pick_t (v:=.bool _) rfl rfl rfl) ?_
   refine e_q 22 rfl (wn_none rfl) (op_assign (v:=.bool _) rfl) ?_
   refine Z9 ?_
   exact px_ret1 rfl (v:=.bool _) rfl (fun _ s=>(s.arr 4 [])) ⟨congrArg Value.bool (by rw [path_len];rfl),rfl⟩
  intro hb3 hp3
  exact absurd rfl (of_decide_eq_false hb3)
 intro hb2 hp2
 exact absurd hb2 (by simp)
def chM (xs:List Val) (n2:Int) (k:Nat):Int:=(memI xs.length (k:Int) n2).headD (-1)
def chT (xs:List Val) (n2:Int) (k:Nat) (r:Root):Tag:=(tagM xs n2 1 (k:Int) r (chM xs n2 k) 0 []).1
def chR (r0:Root) (xs:List Val) (n2:Int):Nat→Root
  | 0=>r0
  | k+1=>rtB ((k+1:Nat):Int) (chR r0 xs n2 k) (chM xs n2 (k+1)) (chT xs n2 (k+1) (chR r0 xs n2 k))
def chD (r0:Root) (xs:List Val) (n2:Int):ChD:=⟨chR r0 xs n2,chM xs n2,fun k=>chT xs n2 k (chR r0 xs n2 (k-1)),1⟩
theorem chM_in {xs:List Val} {n2:Int} (h2:1≤n2∧n2≤16∧n2≤xs.length) (k:Nat):chM xs n2 k∈memI xs.length (k:Int) n2:=by
  unfold chM
  have hl:=memI_len (slot:=(k:Int)) h2.2.2
  cases hm:memI xs.length (k:Int) n2 with
  | nil=>rw [hm] at hl;simp at hl;omega
  | cons a r=>exact List.mem_cons_self
theorem ch_sig {xs:List Val} {n2:Int} (h2:1≤n2∧n2≤16∧n2≤xs.length) (hx:xs.length≤64) {k:Nat} (hk:k≤30) (r:Root):SignedB xs n2 (k:Int) r (chM xs n2 k) (chT xs n2 k r):=by
  have hm:=chM_in h2 k
  have hr:=memI_lt h2.2.2 hm
  have hg:GoodB (k:Int) (chM xs n2 k):=⟨by omega,by omega,by omega,by omega⟩
  refine ⟨hg,?_⟩
  have hs:(spk xs.length n2 1 (k:Int) (chM xs n2 k) 0 []).2=true:=by
    rw [spk_one hg.good (by decide),if_neg]
    rintro (h | ⟨_,h⟩)
    · exact h hm
    · exact h rfl
  have ht:(tagM xs n2 1 (k:Int) r (chM xs n2 k) 0 []).2=true:=by unfold tagM;rw [if_pos hs]
  exact Prod.ext rfl ht
theorem chD_ex {xs:List Val} {n2:Int} (h2:1≤n2∧n2≤16∧n2≤xs.length) (hx:xs.length≤64) (r0:Root):∃ D:ChD,D.peer=1∧D.r 0=r0 ∧
    ∀ q,q+1≤30→D.mb (q+1)=(memI xs.length ((q+1:Nat):Int) n2).headD (-1)∧tagM xs n2 1 ((q+1:Nat):Int) (D.r q) (D.mb (q+1)) 0 []=(D.tg (q+1),true) ∧
      D.r (q+1)=rtB ((q+1:Nat):Int) (D.r q) (D.mb (q+1)) (D.tg (q+1))∧GoodB ((q+1:Nat):Int) (D.mb (q+1)):=by
  refine ⟨chD r0 xs n2,rfl,rfl,fun q hq=>?_⟩
  obtain ⟨h3,h4⟩:=ch_sig h2 hx hq (chR r0 xs n2 q)
  have e1:(chD r0 xs n2).r (q+1)=rtB ((q+1:Nat):Int) (chR r0 xs n2 q) (chM xs n2 (q+1)) (chT xs n2 (q+1) (chR r0 xs n2 q)):=by unfold chD;simp only;rw [chR]
  have e2:(chD r0 xs n2).tg (q+1)=chT xs n2 (q+1) (chR r0 xs n2 q):=by unfold chD;simp only [Nat.add_sub_cancel]
  have e3:(chD r0 xs n2).r q=chR r0 xs n2 q:=by unfold chD;rfl
  have e4:(chD r0 xs n2).mb (q+1)=chM xs n2 (q+1):=by unfold chD;rfl
  rw [e1,e2,e3,e4]
  exact ⟨by unfold chM;rfl,h4,Eq.refl _,h3⟩
theorem chD_ok {D:ChD} {xs:List Val} {n2:Int} {n:Nat} (hn:n≤30) (hi:D.Inj n) (h:∀ q,q+1≤30→D.mb (q+1)=(memI xs.length ((q+1:Nat):Int) n2).headD (-1)∧tagM xs n2 1 ((q+1:Nat):Int) (D.r q) (D.mb (q+1)) 0 []=(D.tg (q+1),true) ∧
      D.r (q+1)=rtB ((q+1:Nat):Int) (D.r q) (D.mb (q+1)) (D.tg (q+1))∧GoodB ((q+1:Nat):Int) (D.mb (q+1))):D.OK xs n2 n where
  rt k h1 h2:=by
    obtain ⟨q,rfl⟩:∃ q,k=q+1:=⟨k-1,by omega⟩
    exact (h q (by omega)).2.2.1
  sg k h1 h2:=by
    obtain ⟨q,rfl⟩:∃ q,k=q+1:=⟨k-1,by omega⟩
    exact ⟨(h q (by omega)).2.2.2,(h q (by omega)).2.1⟩
  inj:=hi
  n30:=hn
theorem inj_zero (D:ChD):D.Inj 0:=fun i j h1 h2 _=>by omega
theorem inj_succ {D:ChD} {q:Nat} (h:D.Inj q) (hn:∀ i,i<q+1→D.r i≠D.r (q+1)):D.Inj (q+1):=by
  intro i j h1 h2 he
  rcases Nat.lt_or_ge i (q+1) with h3 | h3<;>rcases Nat.lt_or_ge j (q+1) with h4 | h4
  · exact h i j (by omega) (by omega) he
  · have:j=q+1:=by omega
    subst this;exact absurd he (hn i h3)
  · have:i=q+1:=by omega
    subst this;exact absurd he.symm (hn j h4)
  · omega
def txtsD (D:ChD) (q:Nat):List (List UInt8):=(List.range q).map fun i=>D.txt (i+1)
def rootsD (D:ChD) (q:Nat):List Root:=(List.range q).map fun i=>D.r (i+1)
theorem txts_len (D:ChD) (q:Nat):(txtsD D q).length=q:=by unfold txtsD;simp
theorem roots_lenD (D:ChD) (q:Nat):(rootsD D q).length=q:=by unfold rootsD;simp
theorem txts_succ (D:ChD) (q:Nat):txtsD D q++[D.txt (q+1)]=txtsD D (q+1):=by unfold txtsD;rw [List.range_succ,List.map_append];rfl
theorem roots_succ (D:ChD) (q:Nat):rootsD D q++[D.r (q+1)]=rootsD D (q+1):=by unfold rootsD;rw [List.range_succ,List.map_append];rfl
theorem txts_get {D:ChD} {q i:Nat} (h:i<(txtsD D q).length):(txtsD D q)[i]=D.txt (i+1):=by simp [txtsD]
theorem roots_get {D:ChD} {q i:Nat} (h:i<(rootsD D q).length):(rootsD D q)[i]=D.r (i+1):=by simp [rootsD]
theorem rootsX_get {D:ChD} {q i:Nat} (h:i<([D.r 0]++rootsD D q).length):([D.r 0]++rootsD D q)[i]=D.r i:=by
  cases i with
  | zero=>rfl
  | succ i=>simp [rootsD]
/-- how far the blocks are,behind i of them -/
def jS (N t i:Nat):Nat:=if i<N-t then 0 else if i<N then N-t else N
def mS (N t i:Nat):Nat:=if i<N-t then i else if i<N then i-(N-t) else 0
def bS (N t i:Nat):Nat:=if i<N-t then N-t-i else 2*N-t-i
theorem stepS {N t i:Nat} (ht:t<N) (hi:i<N):(jS N t i<bS N t i∧bS N t i+mS N t i≤N∧bS N t i≤N)∧(if bS N t i=jS N t i+1 then bS N t i+mS N t i else jS N t i)=jS N t (i+1):=by
  unfold bS jS mS
  by_cases h1:i<N-t
  · simp only [if_pos h1,Nat.zero_add]
    refine ⟨by omega,?_⟩
    by_cases h2:N-t-i=1
    · rw [if_pos h2,if_neg (by omega)]
      split<;>omega
    · rw [if_neg h2,if_pos (by omega)]
  · simp only [if_neg h1,if_pos hi]
    refine ⟨by omega,?_⟩
    rw [if_neg (by omega:¬ i+1<N-t)]
    by_cases h2:2*N-t-i=N-t+1
    · rw [if_pos h2,if_neg (by omega)];omega
    · rw [if_neg h2,if_pos (by omega)]
theorem stepK {N t i:Nat} (D:ChD) (ht:t<N) (hi:i<N):(if bS N t i=jS N t i+1 then [] else rangeIt D (bS N t i) (mS N t i+1))=rangeIt D (bS N t (i+1)+1) (mS N t (i+1)):=by
  unfold bS jS mS
  by_cases h1:i<N-t
  · simp only [if_pos h1,Nat.zero_add]
    by_cases h2:N-t-i=1
    · rw [if_pos h2,if_neg (by omega:¬ i+1<N-t),if_neg (by omega:¬ i+1<N-t)]
      split
      · rw [show i+1-(N-t)=0 by omega];rfl
      · rfl
    · rw [if_neg h2,if_pos (by omega),if_pos (by omega),show N-t-(i+1)+1=N-t-i by omega]
  · simp only [if_neg h1,if_pos hi]
    rw [if_neg (by omega:¬ i+1<N-t),if_neg (by omega:¬ i+1<N-t)]
    by_cases h2:2*N-t-i=N-t+1
    · rw [if_pos h2,if_neg (by omega)];rfl
    · rw [if_neg h2,if_pos (by omega),show 2*N-t-(i+1)+1=2*N-t-i by omega,show i-(N-t)+1=i+1-(N-t) by omega]
theorem endS {N t:Nat} (ht:t<N):jS N t N=N∧mS N t N=0:=by
  unfold jS mS
  rw [if_neg (by omega),if_neg (by omega),if_neg (by omega),if_neg (by omega)]
  exact ⟨rfl,rfl⟩
theorem startS {N t:Nat} (ht:t<N):jS N t 0=0∧mS N t 0=0:=by
  unfold jS mS
  rw [if_pos (by omega),if_pos (by omega)]
  exact ⟨rfl,rfl⟩
theorem idxS {N t i:Nat} (ht:t<N) (hi:i<N):(N:Int)-1-(((i:Int)+(t:Int)) % (N:Int))=((bS N t i-1:Nat):Int):=by
  have e:((i:Int)+(t:Int)) % (N:Int)=(((i+t) % N:Nat):Int):=by simp
  rw [e]
  unfold bS
  by_cases h1:i<N-t
  · rw [if_pos h1,Nat.mod_eq_of_lt (by omega)];omega
  · rw [if_neg h1,Nat.mod_eq_sub_mod (by omega),Nat.mod_eq_of_lt (by omega)];omega
theorem GHeadR_calls {w0 w:World} {l:List HProp} (A:GA) (C:Cfg) (xs:List Val) (now:Int) (t:TreeS) (tb:TabS) (K:List PItem) (hs:Sat w0 w ((Blk A.g (.cells #[.slice A.a xs.length A.c,.int .i64 C.epoch,.int .i64 C.committee,.int .i64 C.nodes,.int .i64 C.orphans,.int .i64 C.early,.int .i64 C.quota,.int .i64 C.peers,.int .i64 C.bytes,.int .i64 C.window,.int .i64 C.ban,.int .i64 C.decay,.pointer (some ⟨A.ck,0,none⟩),.pointer (some ⟨A.bk,0,none⟩),.pointer (some ⟨A.or,0,none⟩),.pointer (some ⟨A.ea,0,none⟩),.pointer (some ⟨A.pe,0,none⟩),.int .i64 0] 82 (0,0)))::(Blk A.bk (.cells #[.slice A.a xs.length A.c,.int .i64 C.epoch,.int .i64 C.committee,.int .i64 C.nodes,.int .i64 C.orphans,.int .i64 C.early,.int .i64 C.quota,.int .i64 C.peers,.int .i64 C.bytes,.int .i64 C.window,.int .i64 C.ban,.int .i64 C.decay,.pointer (some ⟨A.tr,0,none⟩),.pointer (some ⟨A.w,0,none⟩),.pointer (some ⟨A.tb,0,none⟩)] 103 (0,0)))::(TreeObj A.tr t)::(WObj A.w A.tr (t).nodes (ownE xs (effT tb) (t).nodes))::l)) (hne:0<t.nodes.length) :
  Calls Tryz.prog 17 #[.pointer (some ⟨A.g,0,none⟩)] w (Ret w0 fun v l'=>v=.agg (rootC (headW t.nodes (ownE xs (effT tb) t.nodes))).toArray∧l'=Blk A.g (.cells #[.slice A.a xs.length A.c,.int .i64 C.epoch,.int .i64 C.committee,.int .i64 C.nodes,.int .i64 C.orphans,.int .i64 C.early,.int .i64 C.quota,.int .i64 C.peers,.int .i64 C.bytes,.int .i64 C.window,.int .i64 C.ban,.int .i64 C.decay,.pointer (some ⟨A.ck,0,none⟩),.pointer (some ⟨A.bk,0,none⟩),.pointer (some ⟨A.or,0,none⟩),.pointer (some ⟨A.ea,0,none⟩),.pointer (some ⟨A.pe,0,none⟩),.int .i64 0] 82 (0,0))::Blk A.bk (.cells #[.slice A.a xs.length A.c,.int .i64 C.epoch,.int .i64 C.committee,.int .i64 C.nodes,.int .i64 C.orphans,.int .i64 C.early,.int .i64 C.quota,.int .i64 C.peers,.int .i64 C.bytes,.int .i64 C.window,.int .i64 C.ban,.int .i64 C.decay,.pointer (some ⟨A.tr,0,none⟩),.pointer (some ⟨A.w,0,none⟩),.pointer (some ⟨A.tb,0,none⟩)] 103 (0,0))::TreeObj A.tr t::WObj A.w A.tr (t).nodes (ownE xs (effT tb) (t).nodes)::l):=by
 refine calls_enter Tryz.func17 rfl rfl rfl hs ?_
 refine R1 ?_
 refine Zp ?_;intro bx1
 refine R4 ?_
 refine Z2 ?_
 refine Z54 ?_
 refine ol_pull4 ?_
 refine ol_pull4 ?_
 refine ol_pull4 ?_
 refine Zbv ?_
 refine ol_pull4 ?_
 refine Z18 ?_
 exact px_rv1 rfl (rv_cella 0 ag_35 rfl rfl (rootC_take' _) (by simp [rootC_len])) (fun _ s=>(s.arr 5 [4,1,2,3])) ⟨rfl,rfl⟩
theorem WholeChains_calls {w0 w:World} {l:List HProp} (ao:Option Addr) (c:Nat) (xs:List Val) (n1 n2 n3 n4 n5 n6 n7 n8 n9 n10 n11:Int) (n:Int) (tn:Nat) (hs:Sat w0 w (l)) (hd0:w0.drawn=0) (hr:Rds w0 l encVal ao xs) (hq:∀ y∈xs,I64 y.stake∧y.key.length≤maxLen) (htn:tn<18446744073709551616) :
  Calls Tryz.prog 3 #[.agg (cfgC ⟨⟨ao,xs.length,c⟩,n1,n2,n3,n4,n5,n6,n7,n8,n9,n10,n11⟩).toArray,.int .i64 n,.int .u64 (tn:Int)] w (Ret w0 fun v l'=>v=.bool true∧l'=l):=by
 refine calls_enter Tryz.func3 rfl rfl rfl hs ?_
 refine Z5 ?_;intro bx1
 refine R5 ?_
 refine oi (os_call cb_4 rfl (fun w s=>Alive_calls  s hd0)) ?_;rintro _ l ⟨rfl,rfl⟩
 refine R3 ?_
 refine Z23 ?_
 refine R5 ?_
 refine oi (os_call cb_5 rfl (fun w s=>Great_calls _ _ _ _ _ _ _ _ _ _ _ _ _ _  s (hr.cons _))) ?_;rintro _ l ⟨rfl,rfl⟩
 refine R1 ?_
 refine ols 27 rfl ?_ ?_
 ·intro hb1 hp1
  refine Z1e ?_
  refine Zq ?_
  refine Z1r ?_
  refine Z2g ?_
  exact Z4q
 intro hb1 hp1
 have hgr:greatC xs=false:=by simpa using hb1
 have hxl0:xs.length≤100:=by unfold greatC at hgr;rw [Bool.or_eq_false_iff] at hgr;have:=of_decide_eq_false hgr.1;omega
 refine Zv ?_
 refine Z5e ?_
 refine Zf ?_
 refine R1 ?_
 refine ols 31 rfl ?_ ?_
 ·intro hb2 hp2
  refine Zx ?_
  refine Z1w ?_
  refine Zh ?_
  refine R6 ?_
  exact Z4q
 intro hb2 hp2
 refine Z2a ?_
 refine ol_q (wn_some rfl rfl rfl hb2 rfl) (op_gt rfl rfl) rfl ?_
 refine Z1o ?_
 refine Z8 ?_ ?_
 ·intro hb3 hp3
  refine R6 ?_
  exact Z4q
 intro hb3 hp3
 refine R2 ?_
 cases hg:goodC ⟨⟨ao,xs.length,c⟩,n1,n2,n3,n4,n5,n6,n7,n8,n9,n10,n11⟩ xs
 ·
  refine R2 ?_
  refine oi (os_call cb_6 rfl (fun w s=>BegunN_calls _ _ _ _ _ _ _ _ _ _ _ _ _ _  s hg (hr.cons _) (by omega) hq)) ?_;rintro _ l ⟨rfl,rfl⟩
  refine R3 ?_
  refine oi (os_alloc zB_31 rfl) ?_;rintro _ _ ⟨bx2,rfl,rfl⟩
  refine Z8u ?_
  refine R8 ?_
  refine Z6d ?_
  refine Z6d ?_
  refine Zr ?_
  refine Z3c ?_
  refine Zr ?_
  refine Z3c ?_
  refine Zr ?_
  refine Z1t ?_
  refine Z2g ?_
  exact px_ret1 rfl (v:=.bool _) rfl (fun _ s=>((s.del 1).del 0)) ⟨rfl,rfl⟩
 have hbd:=goodC_bd hg
 (try dsimp only at hbd)
 have hGK:=gok_of hg
 have hxl:=hbd.2.2.1.2
 have hkk:=hbd.2.2.2
 have h2c:1≤n2∧n2≤16∧n2≤xs.length:=by omega
 obtain ⟨D,hDp,hD0,hDs⟩:=chD_ex h2c hxl (rootG ⟨⟨ao,xs.length,c⟩,n1,n2,n3,n4,n5,n6,n7,n8,n9,n10,n11⟩ xs)
 have hT0:(TreeS.new (rootG ⟨⟨ao,xs.length,c⟩,n1,n2,n3,n4,n5,n6,n7,n8,n9,n10,n11⟩ xs) 0 n3)=pathT D n3 0:=by rw [←hD0];rfl
 have hfg:=tab0_forget xs.length n1
 have hv:=tab0_vote xs.length n1
 have hlt:=tab0_len xs.length n1
 have hD0s:shaM ([116,111,108,108,101,114]++bytesC ⟨⟨ao,xs.length,c⟩,n1,n2,n3,n4,n5,n6,n7,n8,n9,n10,n11⟩ xs)=D.r 0:=hD0.symm
 refine R2 ?_
 refine oi (os_call cb_6 rfl (fun w s=>BegunS_calls _ _ _ _ _ _ _ _ _ _ _ _ _ _  s hg (hr.cons _) hq)) ?_;rintro _ _ ⟨A,rg1,rfl,rfl⟩;rw [hT0]
 refine R3 ?_
 refine oi (os_alloc zB_31 rfl) ?_;rintro _ _ ⟨bx3,rfl,rfl⟩
 refine Z8u ?_
 refine R8 ?_
 refine Z3f ?_
 refine ol_q (wn_some rfl rfl rfl rfl rfl) (op_field fld_24_3 rfl) rfl ?_
 refine ol_q (wn_some rfl rfl rfl rfl rfl) (op_ld 2 sc_3 rfl rfl (show (cfgC _).toArray[3]? = some (.int .i64 n3) from cfgC_a3 _)) rfl ?_
 refine ol_q (wn_some rfl rfl rfl rfl rfl) (op_ge rfl rfl) rfl ?_
 refine Z1n ?_
 refine R1 ?_
 refine ols 48 rfl ?_ ?_
 ·intro hb4 hp4
  refine Z28 ?_
  refine Z28 ?_
  refine Z28 ?_
  refine Z28 ?_
  refine oq (op_pick_t (v:=.bool _) rfl hb4 rfl) ?_
  refine Z3c ?_
  refine Zr ?_
  refine Z1t ?_
  refine Z2g ?_
  exact Z8v
 intro hb4 hp4
 refine ol_q (wn_some rfl rfl rfl hb4 rfl) (op_move (v:=.int _ _) rfl) rfl ?_
 refine ol_q (wn_some rfl rfl rfl hb4 rfl) (op_field fld_24_4 rfl) rfl ?_
 refine ol_q (wn_some rfl rfl rfl hb4 rfl) (op_ld 2 sc_3 rfl rfl (show (cfgC _).toArray[4]? = some (.int .i64 n4) from cfgC_a4 _)) rfl ?_
 refine ol_q (wn_some rfl rfl rfl hb4 rfl) (op_gt rfl rfl) rfl ?_
 refine oq (op_pick_f (v:=.bool _) rfl hb4 rfl) ?_
 refine R1 ?_
 refine ols 54 rfl ?_ ?_
 ·intro hb5 hp5
  refine Z1p ?_
  refine Z1p ?_
  refine Z1p ?_
  refine Z1p ?_
  refine Z6p ?_
  refine Z1t ?_
  refine Z2g ?_
  exact Z8v
 intro hb5 hp5
 refine ol_q (wn_some rfl rfl rfl hb5 rfl) (op_move (v:=.int _ _) rfl) rfl ?_
 refine ol_q (wn_some rfl rfl rfl hb5 rfl) (op_field fld_24_6 rfl) rfl ?_
 refine ol_q (wn_some rfl rfl rfl hb5 rfl) (op_ld 2 sc_3 rfl rfl (show (cfgC _).toArray[6]? = some (.int .i64 n6) from cfgC_a6 _)) rfl ?_
 refine ol_q (wn_some rfl rfl rfl hb5 rfl) (op_gt rfl rfl) rfl ?_
 refine oq (op_pick_f (v:=.bool _) rfl hb5 rfl) ?_
 refine R1 ?_
 refine ols 60 rfl ?_ ?_
 ·intro hb6 hp6
  refine ol_skip (wn_some rfl rfl rfl hb6 rfl) rfl ?_
  refine ol_skip (wn_some rfl rfl rfl hb6 rfl) rfl ?_
  refine ol_skip (wn_some rfl rfl rfl hb6 rfl) rfl ?_
  refine oq (op_pick_t (v:=.bool _) rfl hb6 rfl) ?_
  refine Zh ?_
  refine R6 ?_
  exact Z8v
 intro hb6 hp6
 refine ol_q (wn_some rfl rfl rfl hb6 rfl) (op_field fld_24_8 rfl) rfl ?_
 refine ol_q (wn_some rfl rfl rfl hb6 rfl) (op_ld 2 sc_3 rfl rfl (show (cfgC _).toArray[8]? = some (.int .i64 n8) from cfgC_a8 _)) rfl ?_
 refine ol_q (wn_some rfl rfl rfl hb6 rfl) (op_lt rfl rfl) rfl ?_
 refine oq (op_pick_f (v:=.bool _) rfl hb6 rfl) ?_
 refine Z8 ?_ ?_
 ·intro hb7 hp7
  refine R6 ?_
  exact Z8v
 intro hb7 hp7
 have hN:∃ N:Nat,n=(N:Int)∧1≤N∧N≤30:=⟨n.toNat,by omega,by omega,by omega⟩
 obtain ⟨N,rfl,hN1,hN2⟩:=hN
 refine R4 ?_
 refine oi (os_call cb_7 rfl (fun w s=>RRoot_calls _ _ _ _ _ _ _ _ _ _ _ _ _ _  s (((hr.cons _).cons _).cons _) (by omega) hkk)) ?_;rintro _ l ⟨rfl,rfl⟩;rw [hD0s]
 refine Zp ?_;intro bx4
 refine Z4z ?_
 refine R16 ?_
 refine cd_imp (fun _ s=>Sat.rowNil (E:=encStr) (e:=9) s) ?_
 refine cd_imp (fun _ s=>Sat.rowNil (E:=encRoot) (e:=35) s) ?_
 refine cd_loop2 (α:=Nat×(Option Addr×Nat)×(Option Addr×Nat)) [(6,6),(10,15),(17,17),(67,116)] (fun x=>[(10,.slice x.2.1.1 (txtsD D x.1).length x.2.1.2),(11,.slice x.2.2.1 (rootsD D x.1).length x.2.2.2),(12,.int .i64 ((x.1+1:Nat):Int))]) (fun x=>Row 35 encRoot (.slice x.2.2.1 (rootsD D x.1).length x.2.2.2) (rootsD D x.1)::Row 9 encStr (.slice x.2.1.1 (txtsD D x.1).length x.2.1.2) (txtsD D x.1)::Blk bx4 (.cells (rootC (D.r x.1)).toArray 35 (0,0))::GateObj A ⟨⟨ao,xs.length,c⟩,n1,n2,n3,n4,n5,n6,n7,n8,n9,n10,n11⟩ xs (x.1:Int) (pathT D n3 0) (TabS.new xs.length n1) []::Blk bx3 (.cells #[.pointer (some ⟨A.g,0,none⟩),.pointer (some ⟨rg1,0,none⟩)] 31 (0,0))::Blk bx1 (.cells (cfgC ⟨⟨ao,xs.length,c⟩,n1,n2,n3,n4,n5,n6,n7,n8,n9,n10,n11⟩).toArray 24 (0,0))::l) (fun x=>x.1≤N∧D.Inj x.1) (fun x=>N-x.1) (0,(none,0),(none,0)) ⟨Nat.zero_le _,inj_zero D⟩ ⟨rfl,rfl,rfl,trivial⟩ (fun _ s=>(s.arr 6 [0,1,2,4,3,5])) ?_
 rintro ⟨q,⟨ta,tc⟩,⟨ra,rc⟩⟩ ⟨hq0,hinj⟩ f;(try dsimp only at hq0 hinj ⊢)
 refine R7 ?_
 refine Z4 ?_ ?_
 ·intro hb8 hp8
  have hq1:q<N:=by omega
  obtain ⟨hmb,htg,hrk,hgb⟩:=hDs q (by omega)
  have hml:=memI_len (slot:=((q+1:Nat):Int)) (n:=xs.length) (n2:=n2) (by omega)
  have hm0:(memI xs.length ((q+1:Nat):Int) n2)[0]'(by omega)=D.mb (q+1):=(headD_get (by omega)).trans hmb.symm
  have hok:(tagM xs n2 1 ((q+1:Nat):Int) (D.r q) (D.mb (q+1)) 0 []).2=true:=by rw [htg]
  have hot:(tagM xs n2 1 ((q+1:Nat):Int) (D.r q) (D.mb (q+1)) 0 []).1=D.tg (q+1):=by rw [htg]
  have hrl:=roots_lenD D q
  have htl:=txts_len D q
  refine R7 ?_
  refine Zg ?_
  refine oi (os_call cb_8 rfl (fun w s=>GTick_calls _ _ _ _ _ _ _  s hGK hlt (by omega) hfg)) ?_;rintro _ _ ⟨rfl,rfl⟩
  refine R5 ?_
  refine oi (os_call cb_9 rfl (fun w s=>RMembers_calls _ _ _ _ _ _ _ _ _ _ _ _ _ _ _  s (by omega) (by omega) (by omega) ((((((hr.cons _).cons _).cons _).cons _).cons _).cons _))) ?_;rintro _ _ ⟨ma7,mc7,rfl,rfl⟩
  refine R6 ?_
  refine Z2v ?_
  refine Z6 ?_ ?_
  ·intro hb9 hp9
   exact absurd (of_decide_eq_true hb9) (by omega)
  intro hb9 hp9
  refine R3 ?_
  refine cd_draw (M:=[]) mx [11,12] (by kernel_rfl) ?_
  refine R4 ?_
  refine rg_q (wn_none rfl) (op_index 0 sB_39 rfl rfl rfl (rds_row 0 rfl rfl) rfl (by omega)) rfl rfl ?_
  refine rg_q (wn_none rfl) (op_ldw sc_3 (rds_row 0 rfl rfl) rfl (by omega) rfl) rfl rfl ?_
  refine rg_q (wn_none rfl) (op_build (L:=msgC ⟨1,((q+1:Nat):Int),D.r q,(memI xs.length ((q+1:Nat):Int) n2)[0]'(by omega),0,⟨none,0,0⟩,Tag.zero⟩) (vs:=[(0,.int _ _),(1,.int _ _),(2,.agg (rootC _).toArray),(3,.int _ _)]) bB_46 rfl ⟨⟨rfl,by rw [msgC_len];rfl⟩,⟨rfl,by rw [msgC_len];rfl⟩,⟨by simp [Value.cells,rootC_len],by rw [msgC_len];rfl⟩,⟨rfl,by rw [msgC_len];rfl⟩,trivial⟩ (fill_m4 _ _ _ _)) rfl rfl ?_
  refine rg_soft (wn_none rfl) cb_10 ci_10 (fun M=>os_call cb_10 rfl (fun w s=>by have q:=RSign_calls (ao:=ao) (c:=c) (xs:=xs) (n1:=n1) (n2:=n2) (n3:=n3) (n4:=n4) (n5:=n5) (n6:=n6) (n7:=n7) (n8:=n8) (n9:=n9) (n10:=n10) (n11:=n11) (k:=1) (sl:=((q+1:Nat):Int)) (tg:=(D.r q)) (mb:=((memI xs.length ((q+1:Nat):Int) n2)[0]'(by omega))) (bd:=0) (bo:=none) (bc:=0) (bits:=[]) (tag:=Tag.zero)  s (by omega) (by omega) ((((((((hr.tl _).cons _).cons _).cons _).cons _).cons _).cons _).cons _) (rds_nil _) (by decide) (by decide) hkk;exact q)) ?_
  rw [hm0,if_pos hok,hot]
  refine R3 ?_
  refine rg_i (wn_none rfl) (os_alloc (cs:=(msgC Msg.zero).toArray) zB_46 (by kernel_rfl)) rfl rfl ?_;rintro _ _ ⟨bx5,rfl,rfl⟩;refine ⟨[_],rfl,?_⟩
  refine Zbx ?_
  refine Z2y ?_
  refine R3 ?_
  refine oi (os_call cb_11 rfl (fun w s=>RBytesB_calls _ _ _ _ _ _  s (by assumption))) ?_;rintro _ l ⟨rfl,rfl⟩
  refine oi (os_bslice (E:=encStr) [_] (ys:=[D.txt (q+1)]) sB_37 zv_9 rfl rfl rfl rfl (by decide)) ?_;rintro _ _ ⟨ao1,rfl,rfl⟩
  refine ol_pull5 ?_
  refine oi (os_append (E:=encStr) rfl sB_37 zv_9 rfl rfl rfl (fun w s=>(rds_row 1 rfl rfl) [] w s) rfl (by rw [htl];simp;omega) (by unfold maxLen;rw [htl];simp;omega)) ?_;rintro _ _ ⟨ao2,ac2,rfl,rfl⟩
  refine R5 ?_
  refine oi (os_call cb_12 rfl (fun w s=>RRootB_calls _ _ _ _ _ _  s (by assumption))) ?_;rintro _ l ⟨rfl,rfl⟩;rw [←hrk]
  refine ol_pull6 ?_
  refine Z4z ?_
  refine R5 ?_
  refine oi (os_call cb_7 rfl (fun w s=>RRoot_calls _ _ _ _ _ _ _ _ _ _ _ _ _ _  s (((((((((hr.cons _).cons _).cons _).cons _).cons _).cons _).cons _).cons _).cons _) (by omega) hkk)) ?_;rintro _ l ⟨rfl,rfl⟩;rw [hD0s]
  refine oi (os_bslice (E:=encRoot) [_] (ys:=[D.r 0]) sB_38 zv_35 rfl rfl rfl rfl (by decide)) ?_;rintro _ _ ⟨ao3,rfl,rfl⟩
  refine R1 ?_
  refine oi (os_append (E:=encRoot) rfl sB_38 zv_35 rfl rfl rfl (fun w s=>(rds_row 7 rfl rfl) [] w s) rfl (by rw [hrl];simp;omega) (by unfold maxLen;rw [hrl];simp;omega)) ?_;rintro _ _ ⟨ao4,ac4,rfl,rfl⟩
  refine Z73 ?_
  refine R4 ?_
  refine cd_loop2 (α:=Nat) [(6,6),(17,17),(105,112)] (fun x=>[(105,.int .i64 (x:Int))]) (fun _=>_) (fun x=>x≤q+1∧∀ i,i<x→D.r i≠D.r (q+1)) (fun x=>q+1-x) 0 ⟨Nat.zero_le _,fun i h=>absurd h (Nat.not_lt_zero _)⟩ ⟨rfl,trivial⟩ (fun _ s=>s) ?_
  rintro x ⟨hx0,hxn⟩ f;(try dsimp only at hx0 hxn ⊢)
  refine Z3 ?_ ?_
  ·intro hb10 hp10
   have hx1:x<q+1:=by have h:=of_decide_eq_true hb10;simp only [List.length_append,hrl,List.length_cons,List.length_nil] at h;omega
   refine R5 ?_
   refine oq (op_index x sB_38 rfl rfl rfl (rds_row 0 rfl rfl) rfl (by simp only [List.length_append,hrl,List.length_cons,List.length_nil];omega)) ?_
   refine oq (op_ldaw (L:=rootC _) ag_35 (rds_row 0 rfl rfl) rfl (by simp only [List.length_append,hrl,List.length_cons,List.length_nil];omega) rfl (rootC_ta _)) ?_
   refine Zp ?_;intro bx6
   refine Z4z ?_
   refine R5 ?_
   refine oq (op_eqroot _ _ rB_35 rfl rfl) ?_
   refine Z8 ?_ ?_
   ·intro hb11 hp11
    refine R15 ?_
    exact px_ret1 rfl (v:=.bool _) rfl (fun _ s=>(s.arr 11 [])) ⟨rfl,rfl⟩
   intro hb11 hp11
   have hne:D.r x≠D.r (q+1):=by have h:=of_decide_eq_false hb11;rw [rootsX_get] at h;exact h
   refine R7 ?_
   refine px_loop2 (x+1) ⟨by omega,fun i h=>by rcases Nat.lt_succ_iff_lt_or_eq.1 h with h | rfl;exact hxn i h;exact hne⟩ (by (try dsimp only);omega) ⟨congrArg (Value.int .i64) (by simp),trivial⟩ ?_ (fun _ s=>(s.del 0))
   exact Z0
  intro hb10 hp10
  have hxe:x=q+1:=by have h:=of_decide_eq_false hb10;simp only [List.length_append,hrl,List.length_cons,List.length_nil] at h;omega
  subst hxe
  refine R8 ?_
  refine oi (os_bslice (E:=encRoot) [_] (ys:=[D.r (q+1)]) sB_38 zv_35 rfl rfl rfl rfl (by decide)) ?_;rintro _ _ ⟨ao5,rfl,rfl⟩
  refine ol_pull8 ?_
  refine oi (os_append (E:=encRoot) rfl sB_38 zv_35 rfl rfl rfl (fun w s=>(rds_row 1 rfl rfl) [] w s) rfl (by rw [hrl];simp;omega) (by unfold maxLen;rw [hrl];simp;omega)) ?_;rintro _ _ ⟨ao6,ac6,rfl,rfl⟩
  refine R9 ?_
  refine px_loop2 (q+1,(ao2,ac2),(ao6,ac6)) ⟨by (try dsimp only);omega,inj_succ hinj hxn⟩ (by (try dsimp only);omega) ⟨congrArg (fun q=>Value.slice ao2 (List.length q) ac2) (txts_succ D q),congrArg (fun q=>Value.slice ao6 (List.length q) ac6) (roots_succ D q),congrArg (Value.int .i64) (by simp),trivial⟩ ?_ (fun _ s=>(by (try dsimp only);rw [←txts_succ,←roots_succ];exact (s.arr 11 [0,4,3,8,9,10])))
  exact Z0
 intro hb8 hp8
 obtain rfl:q=N:=by omega
 have hok:=chD_ok hN2 hinj hDs
 have htt:tn % q<q:=Nat.mod_lt _ (by omega)
 have htl:=txts_len D q
 have hrl:=roots_lenD D q
 refine R8 ?_
 refine oq (op_len_slice Tryz.underlying37 rfl) ?_
 refine R4 ?_
 refine cd_loop2 (α:=Nat) [(6,6),(18,20),(119,147)] (fun x=>[(119,.int .i64 (x:Int))]) (fun x=>Row 35 encRoot (.slice ra (rootsD D q).length rc) (rootsD D q)::Row 9 encStr (.slice ta (txtsD D q).length tc) (txtsD D q)::Blk bx4 (.cells (rootC (D.r q)).toArray 35 (0,0))::GateObj A ⟨⟨ao,xs.length,c⟩,n1,n2,n3,n4,n5,n6,n7,n8,n9,n10,n11⟩ xs (q:Int) (pathT D n3 (jS q (tn % q) x)) (TabS.new xs.length n1) (rangeIt D ((bS q (tn % q) x)+1) (mS q (tn % q) x))::Blk bx3 (.cells #[.pointer (some ⟨A.g,0,none⟩),.pointer (some ⟨rg1,0,none⟩)] 31 (0,0))::Blk bx1 (.cells (cfgC ⟨⟨ao,xs.length,c⟩,n1,n2,n3,n4,n5,n6,n7,n8,n9,n10,n11⟩).toArray 24 (0,0))::l) (fun x=>x≤q) (fun x=>q-x) 0 (Nat.zero_le _) ⟨rfl,trivial⟩ (fun _ s=>by rw [(startS htt).1,(startS htt).2];exact s) ?_
 rintro i hi f;(try dsimp only at hi ⊢)
 refine Z3 ?_ ?_
 ·intro hb12 hp12
  have hi1:i<q:=by have h:=of_decide_eq_true hb12;rw [htl] at h;omega
  obtain ⟨⟨hs3,hs4,hs5⟩,hs1⟩:=stepS htt hi1
  have hs2:=stepK D htt hi1
  have hk0:=idxS htt hi1
  have htx:(txtsD D q)[(bS q (tn % q) i)-1]'(by rw [htl];omega)=txtB (((bS q (tn % q) i):Nat):Int) (D.r ((bS q (tn % q) i)-1)) (D.mb (bS q (tn % q) i)) (D.tg (bS q (tn % q) i)):=by rw [txts_get,show (bS q (tn % q) i)-1+1=(bS q (tn % q) i) by omega];rfl
  refine R13 ?_
  refine oq (op_conv64 Tryz.underlying25 (by rw [Tryz.underlying3];rfl) rfl (by omega)) ?_
  refine oq (op_remn rfl rfl (by first | decide | omega)) ?_
  refine oq (op_convint Tryz.underlying3 (by rw [Tryz.underlying25];rfl) rfl (by omega)) ?_
  refine R2 ?_
  refine oq (op_rem rfl rfl (by omega) (by omega)) ?_
  refine R3 ?_
  refine cd_pull3 ?_
  refine R1 ?_
  refine cd_draw (M:=[_]) mx [9] (by kernel_rfl) ?_
  refine R7 ?_
  refine rg_q (wn_none rfl) (op_index ((bS q (tn % q) i)-1) sB_37 rfl rfl hk0 (rds_row 1 rfl rfl) rfl (by rw [htl];omega)) rfl rfl ?_
  refine rg_q (wn_none rfl) (op_ldw sc_9 (rds_row 1 rfl rfl) rfl (by rw [htl];omega) rfl) rfl rfl ?_
  refine rg_i (wn_none rfl) (os_call cb_13 rfl (fun w s=>by have q:=GDeliver_calls (D:=D) (n:=q) (j:=(jS q (tn % q) i)) (m:=(mS q (tn % q) i)) (b:=(bS q (tn % q) i)) _ _ _ _ _  s hGK hlt hok (by show (q:Int)<n3∧(q:Int)≤n4∧(q:Int)≤n6;omega) (by omega) (by omega) (by show 63≤n8;omega) (by rw [hDp];unfold I64;decide);rw [←htx,hDp] at q;exact q)) rfl rfl ?_;rintro _ _ ⟨rfl,rfl⟩;rw [hs1,hs2];refine ⟨[_],rfl,?_⟩
  refine Z2y ?_
  refine R4 ?_
  refine ols 143 rfl ?_ ?_
  ·intro hb13 hp13
   have hv1:=of_decide_eq_true hb13
   refine ol_q (wn_some rfl rfl rfl hb13 rfl) (op_move (v:=.int _ _) rfl) rfl ?_
   refine ol_q (wn_some rfl rfl rfl hb13 rfl) (op_ne rfl rfl) rfl ?_
   refine oq (op_pick_t (v:=.bool _) rfl hb13 rfl) ?_
   refine Z8 ?_ ?_
   ·intro hb14 hp14
    have hv2:=of_decide_eq_true hb14;by_cases hz:(bS q (tn % q) i)=(jS q (tn % q) i)+1<;>simp [hz] at hv1 hv2
   intro hb14 hp14
   refine R7 ?_
   refine Zby ?_
   exact Z0
  intro hb13 hp13
  refine Z38 ?_
  refine Z38 ?_
  refine oq (op_pick_f (v:=.bool _) rfl hb13 rfl) ?_
  refine Z2o ?_
  refine Zby ?_
  exact Z0
 intro hb12 hp12
 have hie:i=q:=by have h:=of_decide_eq_false hb12;rw [htl] at h;omega
 rw [hie,(endS htt).1,(endS htt).2]
 refine R6 ?_
 refine cd_pull3 ?_
 refine Z1y ?_
 refine R2 ?_
 refine Z73 ?_
 refine R4 ?_
 refine cd_loop2 (α:=Nat) [(6,6),(22,22),(150,161)] (fun x=>[(150,.int .i64 (x:Int))]) (fun _=>_) (fun x=>x≤q) (fun x=>q-x) 0 (Nat.zero_le _) ⟨rfl,trivial⟩ (fun _ s=>s) ?_
 rintro i hi f;(try dsimp only at hi ⊢)
 refine Z3 ?_ ?_
 ·intro hb15 hp15
  have hi1:i<q:=by have h:=of_decide_eq_true hb15;rw [hrl] at h;omega
  refine R5 ?_
  refine oq (op_index _ sB_38 rfl rfl rfl (rds_row 13 rfl rfl) rfl (by rw [hrl];omega)) ?_
  refine oq (op_ldaw (L:=rootC _) ag_35 (rds_row 13 rfl rfl) rfl (by rw [hrl];omega) rfl (rootC_ta _)) ?_
  refine Zp ?_;intro bx7
  refine Z18 ?_
  refine Zo ?_
  refine R1 ?_
  refine rg_q (wn_none rfl) (op_ld 17 sc_28 rfl rfl rfl) rfl rfl ?_
  refine rg_soft (wn_none rfl) cb_14 ci_14 (fun M=>os_back (os_pull1 (os_call cb_14 rfl (fun w s=>GBook_calls (C:=⟨⟨ao,xs.length,c⟩,n1,n2,n3,n4,n5,n6,n7,n8,n9,n10,n11⟩) _ _  s ))) (fun _ s=>(s.push 1))) ?_
  refine rg_soft (wn_none rfl) cb_15 ci_15 (fun M=>os_back (os_pull4 (os_call cb_15 rfl (fun w s=>BTree_calls _ _ _ _ _ _ _ _ _ _ _ _ _ _ _ _ _ _  s ))) (fun _ s=>(s.push 4))) ?_
  refine R1 ?_
  refine rg_soft (wn_none rfl) cb_16 ci_16 (fun M=>os_back (os_pull5 (os_call cb_16 rfl (fun w s=>Place_calls _ _ _  s ))) (fun _ s=>(s.push 5))) ?_
  refine Z1z ?_
  refine Z4 ?_ ?_
  ·intro hb16 hp16
   exact absurd (of_decide_eq_true hb16) (by rw [roots_get,path_place hinj (by omega) (Nat.le_refl _)];omega)
  intro hb16 hp16
  refine R7 ?_
  refine px_loop2 (i+1) (by omega) (by (try dsimp only);omega) ⟨congrArg (Value.int .i64) (by simp),trivial⟩ ?_ (fun _ s=>(s.del 0))
  exact Z0
 intro hb15 hp15
 refine R6 ?_
 refine Zo ?_
 refine R1 ?_
 refine rg_q (wn_none rfl) (op_ld 16 sc_28 rfl rfl rfl) rfl rfl ?_
 refine rg_soft (wn_none rfl) cb_17 ci_17 (fun M=>os_back (os_pull5 (os_pull5 (os_pull5 (os_pull3 (os_call cb_17 rfl (fun w s=>GHeadR_calls (C:=⟨⟨ao,xs.length,c⟩,n1,n2,n3,n4,n5,n6,n7,n8,n9,n10,n11⟩) (now:=(0:Int)) (K:=([]:List PItem)) _ _ _ _  s (by rw [path_len];exact Nat.succ_pos _))))))) (fun _ s=>((((s.push 3).push 5).push 5).push 5))) ?_
 rw [head_path q (by rw [ownE_len,path_len])]
 refine rg_q (wn_none rfl) (op_lda (L:=rootC _) 15 ag_35 rfl rfl (rootC_take' _) (by simp [rootC_len])) rfl rfl ?_
 refine rg_q (wn_none rfl) (op_eqroot _ _ rB_35 rfl rfl) rfl rfl ?_
 refine R1 ?_
 refine rgs 167 rfl ?_ ?_
 ·intro hb17 hp17
  refine rg_q (wn_some rfl rfl rfl hb17 rfl) (op_field fld_31_0 rfl) rfl rfl ?_
  refine rg_q (wn_some rfl rfl rfl hb17 rfl) (op_ld 16 sc_28 rfl rfl rfl) rfl rfl ?_
  refine rg_soft (wn_some rfl rfl rfl hb17 rfl) cb_18 ci_18 (fun M=>os_call cb_18 rfl (fun w s=>GOrph_calls (C:=⟨⟨ao,xs.length,c⟩,n1,n2,n3,n4,n5,n6,n7,n8,n9,n10,n11⟩) _ _  s )) ?_
  refine rg_soft (wn_some rfl rfl rfl hb17 rfl) cb_19 ci_19 (fun M=>os_back (os_pull8 (os_pull8 (os_call cb_19 rfl (fun w s=>OrLen_calls _ _ _ _ _  s )))) (fun _ s=>((s.push 8).push 8))) ?_
  refine rg_q (wn_some rfl rfl rfl hb17 rfl) (op_eq rfl rfl) rfl rfl ?_
  refine rg_q (wn_none rfl) (op_pick_t (v:=.bool _) rfl hb17 rfl) rfl rfl ?_
  refine Z1z ?_
  refine R1 ?_
  exact px_ret1 rfl (v:=.bool _) rfl (fun _ s=>(s.arr 18 [])) ⟨congrArg Value.bool (by rw [range_len];exact decide_eq_true rfl),rfl⟩
 intro hb17 hp17
 exact absurd rfl (of_decide_eq_false hb17)
end Go.SL
