import Derived.Test.YtfklhdamklofeaaGreatK5
set_option linter.unusedVariables false
set_option linter.unusedSimpArgs false
set_option linter.unusedSectionVars false
set_option maxHeartbeats 1000000
set_option maxRecDepth 100000
namespace Go.SL
open Go.Proofs
theorem take_calls {w0 w:World} {l:List HProp} (p:Nat) (q:St) (bo:Option Addr) (bc:Nat) (bs:List UInt8) (hs:Sat w0 w ((Blk p (.cells (stC q).toArray 295 (0,0)))::l)) (hr:Rds w0 l encU8 bo bs) (hb:bs.length=64) :
  Calls Tryz.prog 197 #[.pointer (some ⟨p,0,none⟩),.slice bo bs.length bc] w (Ret w0 fun v l'=>v=.tuple #[]∧l'=Blk p (.cells (stC ⟨blk8 q.w bs,q.rest,q.size⟩).toArray 295 (0,0))::l):=by
 refine calls_enter Tryz.func197 rfl rfl rfl hs ?_
 refine cd_cut (α:=Nat×Nat×Nat) [(4,6),(13,19)] (fun x=>[(4,.pointer (some ⟨x.1,0,none⟩)),(5,.pointer (some ⟨x.2.1,0,none⟩)),(6,.pointer (some ⟨x.2.2,0,none⟩))]) (fun x=>Blk x.1 (.cells (wC (layM bs)).toArray 150 (0,0))::Blk x.2.1 (.cells (wC K64).toArray 150 (0,0))::Blk x.2.2 (.cells (wC q.w.1).toArray 146 (0,0))::Blk p (.cells (stC q).toArray 295 (0,0))::l) ?_ ?_
 ·
  refine cd_drawe (M:=[]) mx [1,2,7,8,9,10,11,12] ?_
  refine Z7k ?_
  refine e_q 3 rfl (wn_none rfl) (op_move (v:=.pointer _) rfl) ?_
  refine e_q 4 rfl (wn_none rfl) (op_nilck rfl) ?_
  refine e_q 5 rfl (wn_none rfl) (op_field fld_295_0 rfl) ?_
  refine e_q 6 rfl (wn_none rfl) (op_lda  0 ag_146 rfl rfl (stC_af0 _) (by simp [stC_len])) ?_
  refine et_4 (i1:=1) (i2:=7) (i3:=8) (i4:=9) (by kernel_rfl) ?_ ?_ ?_ ?_
  ·
   refine ei_i rfl rfl (wn_none rfl) (os_call cb_221 rfl (fun w s=>lay_calls _ _ _  s (hr.cons _) (by assumption))) rfl ?_;rintro _ _ ⟨rfl,rfl⟩;refine ⟨[],rfl,?_⟩
   refine et_4 (i1:=2) (i2:=7) (i3:=8) (i4:=9) (by kernel_rfl) ?_ ?_ ?_ ?_
   ·
    refine ei_i rfl rfl (wn_none rfl) (os_call cb_222 rfl (fun w s=>keys_calls  s )) rfl ?_;rintro _ _ ⟨rfl,rfl⟩;refine ⟨[],rfl,?_⟩
    refine et_3 (i1:=7) (i2:=8) (i3:=9) (by kernel_rfl) ?_ ?_ ?_
    ·
     refine Z5p ?_;intro bx1
     refine et_2 (i1:=8) (i2:=9) (by kernel_rfl) ?_ ?_
     ·
      refine Zy ?_;intro bx2
      refine Z15 ?_
      refine Z1f ?_;intro bx3
      refine Z1c ?_
      refine Z1g ?_
      refine Zl ?_
      refine px_cut (bx1,bx2,bx3) ⟨rfl,rfl,rfl,trivial⟩ ?_ (fun _ s=>(s.arr 4 [2,1,0,3]))
      exact Z1
     refine Z2u ?_;intro bx4
     refine Zw ?_
     refine Z13 ?_;intro bx5
     refine Z1g ?_
     refine Zm ?_
     refine px_cut (bx1,bx5,bx4) ⟨rfl,rfl,rfl,trivial⟩ ?_ (fun _ s=>(s.arr 4 [2,1,0,3]))
     exact Z1
    ·
     refine Z5p ?_;intro bx6
     refine et_2 (i1:=7) (i2:=9) (by kernel_rfl) ?_ ?_
     ·
      refine Zy ?_;intro bx7
      refine Z15 ?_
      refine Z1f ?_;intro bx8
      refine Z1c ?_
      refine Z1h ?_
      refine Zl ?_
      refine px_cut (bx7,bx6,bx8) ⟨rfl,rfl,rfl,trivial⟩ ?_ (fun _ s=>(s.arr 4 [2,1,0,3]))
      exact Z1
     refine Z2u ?_;intro bx9
     refine Zc ?_
     refine Z13 ?_;intro bx10
     refine Z1i ?_
     refine Zl ?_
     refine px_cut (bx10,bx6,bx9) ⟨rfl,rfl,rfl,trivial⟩ ?_ (fun _ s=>(s.arr 4 [2,1,0,3]))
     exact Z1
    refine Z9e ?_;intro bx11
    refine et_2 (i1:=7) (i2:=8) (by kernel_rfl) ?_ ?_
    ·
     refine Zy ?_;intro bx12
     refine Zw ?_
     refine Z13 ?_;intro bx13
     refine Z1h ?_
     refine Zm ?_
     refine px_cut (bx12,bx13,bx11) ⟨rfl,rfl,rfl,trivial⟩ ?_ (fun _ s=>(s.arr 4 [2,1,0,3]))
     exact Z1
    refine Zy ?_;intro bx14
    refine Zc ?_
    refine Z13 ?_;intro bx15
    refine Z1i ?_
    refine Zm ?_
    refine px_cut (bx15,bx14,bx11) ⟨rfl,rfl,rfl,trivial⟩ ?_ (fun _ s=>(s.arr 4 [2,1,0,3]))
    exact Z1
   ·
    refine Z5p ?_;intro bx16
    refine et_3 (i1:=2) (i2:=8) (i3:=9) (by kernel_rfl) ?_ ?_ ?_
    ·
     refine Z5q ?_
     refine et_2 (i1:=8) (i2:=9) (by kernel_rfl) ?_ ?_
     ·
      refine Zy ?_;intro bx17
      refine Z15 ?_
      refine Z1f ?_;intro bx18
      refine Z1c ?_
      refine Z1g ?_
      refine Zl ?_
      refine px_cut (bx16,bx17,bx18) ⟨rfl,rfl,rfl,trivial⟩ ?_ (fun _ s=>(s.arr 4 [2,1,0,3]))
      exact Z1
     refine Z2u ?_;intro bx19
     refine Zw ?_
     refine Z13 ?_;intro bx20
     refine Z1g ?_
     refine Zm ?_
     refine px_cut (bx16,bx20,bx19) ⟨rfl,rfl,rfl,trivial⟩ ?_ (fun _ s=>(s.arr 4 [2,1,0,3]))
     exact Z1
    ·
     refine Zy ?_;intro bx21
     refine Z5r ?_ ?_
     ·
      refine Z1q ?_
      refine Z15 ?_
      refine Z1f ?_;intro bx22
      refine Z1c ?_
      refine Z1g ?_
      refine Zl ?_
      refine px_cut (bx16,bx21,bx22) ⟨rfl,rfl,rfl,trivial⟩ ?_ (fun _ s=>(s.arr 4 [2,1,0,3]))
      exact Z1
     refine Z1f ?_;intro bx23
     refine Z12 ?_
     refine Z1g ?_
     refine Zl ?_
     refine px_cut (bx16,bx21,bx23) ⟨rfl,rfl,rfl,trivial⟩ ?_ (fun _ s=>(s.arr 4 [2,1,0,3]))
     exact Z1
    refine Z2u ?_;intro bx24
    refine Z5s ?_ ?_
    ·
     refine Z1q ?_
     refine Zw ?_
     refine Z13 ?_;intro bx25
     refine Z1g ?_
     refine Zm ?_
     refine px_cut (bx16,bx25,bx24) ⟨rfl,rfl,rfl,trivial⟩ ?_ (fun _ s=>(s.arr 4 [2,1,0,3]))
     exact Z1
    refine Z1x ?_;intro bx26
    refine Z12 ?_
    refine Z1g ?_
    refine Zm ?_
    refine px_cut (bx16,bx26,bx24) ⟨rfl,rfl,rfl,trivial⟩ ?_ (fun _ s=>(s.arr 4 [2,1,0,3]))
    exact Z1
   ·
    refine Z5p ?_;intro bx27
    refine et_3 (i1:=2) (i2:=7) (i3:=9) (by kernel_rfl) ?_ ?_ ?_
    ·
     refine Z5q ?_
     refine et_2 (i1:=7) (i2:=9) (by kernel_rfl) ?_ ?_
     ·
      refine Zy ?_;intro bx28
      refine Z15 ?_
      refine Z1f ?_;intro bx29
      refine Z1c ?_
      refine Z1h ?_
      refine Zl ?_
      refine px_cut (bx28,bx27,bx29) ⟨rfl,rfl,rfl,trivial⟩ ?_ (fun _ s=>(s.arr 4 [2,1,0,3]))
      exact Z1
     refine Z2u ?_;intro bx30
     refine Zc ?_
     refine Z13 ?_;intro bx31
     refine Z1i ?_
     refine Zl ?_
     refine px_cut (bx31,bx27,bx30) ⟨rfl,rfl,rfl,trivial⟩ ?_ (fun _ s=>(s.arr 4 [2,1,0,3]))
     exact Z1
    ·
     refine Zy ?_;intro bx32
     refine Z5r ?_ ?_
     ·
      refine Z1q ?_
      refine Z15 ?_
      refine Z1f ?_;intro bx33
      refine Z1c ?_
      refine Z1h ?_
      refine Zl ?_
      refine px_cut (bx32,bx27,bx33) ⟨rfl,rfl,rfl,trivial⟩ ?_ (fun _ s=>(s.arr 4 [2,1,0,3]))
      exact Z1
     refine Z1f ?_;intro bx34
     refine Z12 ?_
     refine Z1h ?_
     refine Zl ?_
     refine px_cut (bx32,bx27,bx34) ⟨rfl,rfl,rfl,trivial⟩ ?_ (fun _ s=>(s.arr 4 [2,1,0,3]))
     exact Z1
    refine Z2u ?_;intro bx35
    refine Z5t ?_ ?_
    ·
     refine Z1q ?_
     refine Zc ?_
     refine Z13 ?_;intro bx36
     refine Z1i ?_
     refine Zl ?_
     refine px_cut (bx36,bx27,bx35) ⟨rfl,rfl,rfl,trivial⟩ ?_ (fun _ s=>(s.arr 4 [2,1,0,3]))
     exact Z1
    refine Z1x ?_;intro bx37
    refine Z12 ?_
    refine Z1i ?_
    refine Zl ?_
    refine px_cut (bx37,bx27,bx35) ⟨rfl,rfl,rfl,trivial⟩ ?_ (fun _ s=>(s.arr 4 [2,1,0,3]))
    exact Z1
   refine Z9e ?_;intro bx38
   refine et_3 (i1:=2) (i2:=7) (i3:=8) (by kernel_rfl) ?_ ?_ ?_
   ·
    refine Z5q ?_
    refine et_2 (i1:=7) (i2:=8) (by kernel_rfl) ?_ ?_
    ·
     refine Zy ?_;intro bx39
     refine Zw ?_
     refine Z13 ?_;intro bx40
     refine Z1h ?_
     refine Zm ?_
     refine px_cut (bx39,bx40,bx38) ⟨rfl,rfl,rfl,trivial⟩ ?_ (fun _ s=>(s.arr 4 [2,1,0,3]))
     exact Z1
    refine Zy ?_;intro bx41
    refine Zc ?_
    refine Z13 ?_;intro bx42
    refine Z1i ?_
    refine Zm ?_
    refine px_cut (bx42,bx41,bx38) ⟨rfl,rfl,rfl,trivial⟩ ?_ (fun _ s=>(s.arr 4 [2,1,0,3]))
    exact Z1
   ·
    refine Zy ?_;intro bx43
    refine Z5s ?_ ?_
    ·
     refine Z1q ?_
     refine Zw ?_
     refine Z13 ?_;intro bx44
     refine Z1h ?_
     refine Zm ?_
     refine px_cut (bx43,bx44,bx38) ⟨rfl,rfl,rfl,trivial⟩ ?_ (fun _ s=>(s.arr 4 [2,1,0,3]))
     exact Z1
    refine Z1x ?_;intro bx45
    refine Z12 ?_
    refine Z1h ?_
    refine Zm ?_
    refine px_cut (bx43,bx45,bx38) ⟨rfl,rfl,rfl,trivial⟩ ?_ (fun _ s=>(s.arr 4 [2,1,0,3]))
    exact Z1
   refine Zy ?_;intro bx46
   refine Z5t ?_ ?_
   ·
    refine Z1q ?_
    refine Zc ?_
    refine Z13 ?_;intro bx47
    refine Z1i ?_
    refine Zm ?_
    refine px_cut (bx47,bx46,bx38) ⟨rfl,rfl,rfl,trivial⟩ ?_ (fun _ s=>(s.arr 4 [2,1,0,3]))
    exact Z1
   refine Z1x ?_;intro bx48
   refine Z12 ?_
   refine Z1i ?_
   refine Zm ?_
   refine px_cut (bx48,bx46,bx38) ⟨rfl,rfl,rfl,trivial⟩ ?_ (fun _ s=>(s.arr 4 [2,1,0,3]))
   exact Z1
  ·
   refine Z5p ?_;intro bx49
   refine et_3 (i1:=1) (i2:=8) (i3:=9) (by kernel_rfl) ?_ ?_ ?_
   ·
    refine Z9f ?_
    refine et_3 (i1:=2) (i2:=8) (i3:=9) (by kernel_rfl) ?_ ?_ ?_
    ·
     refine Z5q ?_
     refine et_2 (i1:=8) (i2:=9) (by kernel_rfl) ?_ ?_
     ·
      refine Zy ?_;intro bx50
      refine Z15 ?_
      refine Z1f ?_;intro bx51
      refine Z1c ?_
      refine Z1g ?_
      refine Zl ?_
      refine px_cut (bx49,bx50,bx51) ⟨rfl,rfl,rfl,trivial⟩ ?_ (fun _ s=>(s.arr 4 [2,1,0,3]))
      exact Z1
     refine Z2u ?_;intro bx52
     refine Zw ?_
     refine Z13 ?_;intro bx53
     refine Z1g ?_
     refine Zm ?_
     refine px_cut (bx49,bx53,bx52) ⟨rfl,rfl,rfl,trivial⟩ ?_ (fun _ s=>(s.arr 4 [2,1,0,3]))
     exact Z1
    ·
     refine Zy ?_;intro bx54
     refine Z5r ?_ ?_
     ·
      refine Z1q ?_
      refine Z15 ?_
      refine Z1f ?_;intro bx55
      refine Z1c ?_
      refine Z1g ?_
      refine Zl ?_
      refine px_cut (bx49,bx54,bx55) ⟨rfl,rfl,rfl,trivial⟩ ?_ (fun _ s=>(s.arr 4 [2,1,0,3]))
      exact Z1
     refine Z1f ?_;intro bx56
     refine Z12 ?_
     refine Z1g ?_
     refine Zl ?_
     refine px_cut (bx49,bx54,bx56) ⟨rfl,rfl,rfl,trivial⟩ ?_ (fun _ s=>(s.arr 4 [2,1,0,3]))
     exact Z1
    refine Z2u ?_;intro bx57
    refine Z5s ?_ ?_
    ·
     refine Z1q ?_
     refine Zw ?_
     refine Z13 ?_;intro bx58
     refine Z1g ?_
     refine Zm ?_
     refine px_cut (bx49,bx58,bx57) ⟨rfl,rfl,rfl,trivial⟩ ?_ (fun _ s=>(s.arr 4 [2,1,0,3]))
     exact Z1
    refine Z1x ?_;intro bx59
    refine Z12 ?_
    refine Z1g ?_
    refine Zm ?_
    refine px_cut (bx49,bx59,bx57) ⟨rfl,rfl,rfl,trivial⟩ ?_ (fun _ s=>(s.arr 4 [2,1,0,3]))
    exact Z1
   ·
    refine Zy ?_;intro bx60
    refine et_2 (i1:=1) (i2:=9) (by kernel_rfl) ?_ ?_
    ·
     refine Z5u ?_
     refine Z5r ?_ ?_
     ·
      refine Z1q ?_
      refine Z15 ?_
      refine Z1f ?_;intro bx61
      refine Z1c ?_
      refine Z1g ?_
      refine Zl ?_
      refine px_cut (bx49,bx60,bx61) ⟨rfl,rfl,rfl,trivial⟩ ?_ (fun _ s=>(s.arr 4 [2,1,0,3]))
      exact Z1
     refine Z1f ?_;intro bx62
     refine Z12 ?_
     refine Z1g ?_
     refine Zl ?_
     refine px_cut (bx49,bx60,bx62) ⟨rfl,rfl,rfl,trivial⟩ ?_ (fun _ s=>(s.arr 4 [2,1,0,3]))
     exact Z1
    refine Z1f ?_;intro bx63
    refine Z39 ?_
    refine Z5v ?_
    refine Z12 ?_
    refine Z1g ?_
    refine Zl ?_
    refine px_cut (bx49,bx60,bx63) ⟨rfl,rfl,rfl,trivial⟩ ?_ (fun _ s=>(s.arr 4 [2,1,0,3]))
    exact Z1
   refine Z2u ?_;intro bx64
   refine et_2 (i1:=1) (i2:=8) (by kernel_rfl) ?_ ?_
   ·
    refine Z5u ?_
    refine Z5s ?_ ?_
    ·
     refine Z1q ?_
     refine Zw ?_
     refine Z13 ?_;intro bx65
     refine Z1g ?_
     refine Zm ?_
     refine px_cut (bx49,bx65,bx64) ⟨rfl,rfl,rfl,trivial⟩ ?_ (fun _ s=>(s.arr 4 [2,1,0,3]))
     exact Z1
    refine Z1x ?_;intro bx66
    refine Z12 ?_
    refine Z1g ?_
    refine Zm ?_
    refine px_cut (bx49,bx66,bx64) ⟨rfl,rfl,rfl,trivial⟩ ?_ (fun _ s=>(s.arr 4 [2,1,0,3]))
    exact Z1
   refine Z1x ?_;intro bx67
   refine Z39 ?_
   refine Z5v ?_
   refine Z12 ?_
   refine Z1g ?_
   refine Zm ?_
   refine px_cut (bx49,bx67,bx64) ⟨rfl,rfl,rfl,trivial⟩ ?_ (fun _ s=>(s.arr 4 [2,1,0,3]))
   exact Z1
  ·
   refine Z5p ?_;intro bx68
   refine et_3 (i1:=1) (i2:=7) (i3:=9) (by kernel_rfl) ?_ ?_ ?_
   ·
    refine Z9f ?_
    refine et_3 (i1:=2) (i2:=7) (i3:=9) (by kernel_rfl) ?_ ?_ ?_
    ·
     refine Z5q ?_
     refine et_2 (i1:=7) (i2:=9) (by kernel_rfl) ?_ ?_
     ·
      refine Zy ?_;intro bx69
      refine Z15 ?_
      refine Z1f ?_;intro bx70
      refine Z1c ?_
      refine Z1h ?_
      refine Zl ?_
      refine px_cut (bx69,bx68,bx70) ⟨rfl,rfl,rfl,trivial⟩ ?_ (fun _ s=>(s.arr 4 [2,1,0,3]))
      exact Z1
     refine Z2u ?_;intro bx71
     refine Zc ?_
     refine Z13 ?_;intro bx72
     refine Z1i ?_
     refine Zl ?_
     refine px_cut (bx72,bx68,bx71) ⟨rfl,rfl,rfl,trivial⟩ ?_ (fun _ s=>(s.arr 4 [2,1,0,3]))
     exact Z1
    ·
     refine Zy ?_;intro bx73
     refine Z5r ?_ ?_
     ·
      refine Z1q ?_
      refine Z15 ?_
      refine Z1f ?_;intro bx74
      refine Z1c ?_
      refine Z1h ?_
      refine Zl ?_
      refine px_cut (bx73,bx68,bx74) ⟨rfl,rfl,rfl,trivial⟩ ?_ (fun _ s=>(s.arr 4 [2,1,0,3]))
      exact Z1
     refine Z1f ?_;intro bx75
     refine Z12 ?_
     refine Z1h ?_
     refine Zl ?_
     refine px_cut (bx73,bx68,bx75) ⟨rfl,rfl,rfl,trivial⟩ ?_ (fun _ s=>(s.arr 4 [2,1,0,3]))
     exact Z1
    refine Z2u ?_;intro bx76
    refine Z5t ?_ ?_
    ·
     refine Z1q ?_
     refine Zc ?_
     refine Z13 ?_;intro bx77
     refine Z1i ?_
     refine Zl ?_
     refine px_cut (bx77,bx68,bx76) ⟨rfl,rfl,rfl,trivial⟩ ?_ (fun _ s=>(s.arr 4 [2,1,0,3]))
     exact Z1
    refine Z1x ?_;intro bx78
    refine Z12 ?_
    refine Z1i ?_
    refine Zl ?_
    refine px_cut (bx78,bx68,bx76) ⟨rfl,rfl,rfl,trivial⟩ ?_ (fun _ s=>(s.arr 4 [2,1,0,3]))
    exact Z1
   ·
    refine Zy ?_;intro bx79
    refine et_2 (i1:=1) (i2:=9) (by kernel_rfl) ?_ ?_
    ·
     refine Z5u ?_
     refine Z5r ?_ ?_
     ·
      refine Z1q ?_
      refine Z15 ?_
      refine Z1f ?_;intro bx80
      refine Z1c ?_
      refine Z1h ?_
      refine Zl ?_
      refine px_cut (bx79,bx68,bx80) ⟨rfl,rfl,rfl,trivial⟩ ?_ (fun _ s=>(s.arr 4 [2,1,0,3]))
      exact Z1
     refine Z1f ?_;intro bx81
     refine Z12 ?_
     refine Z1h ?_
     refine Zl ?_
     refine px_cut (bx79,bx68,bx81) ⟨rfl,rfl,rfl,trivial⟩ ?_ (fun _ s=>(s.arr 4 [2,1,0,3]))
     exact Z1
    refine Z1f ?_;intro bx82
    refine Z39 ?_
    refine Z5v ?_
    refine Z12 ?_
    refine Z1h ?_
    refine Zl ?_
    refine px_cut (bx79,bx68,bx82) ⟨rfl,rfl,rfl,trivial⟩ ?_ (fun _ s=>(s.arr 4 [2,1,0,3]))
    exact Z1
   refine Z2u ?_;intro bx83
   refine et_2 (i1:=1) (i2:=7) (by kernel_rfl) ?_ ?_
   ·
    refine Z5u ?_
    refine Z5t ?_ ?_
    ·
     refine Z1q ?_
     refine Zc ?_
     refine Z13 ?_;intro bx84
     refine Z1i ?_
     refine Zl ?_
     refine px_cut (bx84,bx68,bx83) ⟨rfl,rfl,rfl,trivial⟩ ?_ (fun _ s=>(s.arr 4 [2,1,0,3]))
     exact Z1
    refine Z1x ?_;intro bx85
    refine Z12 ?_
    refine Z1i ?_
    refine Zl ?_
    refine px_cut (bx85,bx68,bx83) ⟨rfl,rfl,rfl,trivial⟩ ?_ (fun _ s=>(s.arr 4 [2,1,0,3]))
    exact Z1
   refine Z1x ?_;intro bx86
   refine Z39 ?_
   refine Z5v ?_
   refine Z12 ?_
   refine Z1i ?_
   refine Zl ?_
   refine px_cut (bx86,bx68,bx83) ⟨rfl,rfl,rfl,trivial⟩ ?_ (fun _ s=>(s.arr 4 [2,1,0,3]))
   exact Z1
  refine Z9e ?_;intro bx87
  refine et_3 (i1:=1) (i2:=7) (i3:=8) (by kernel_rfl) ?_ ?_ ?_
  ·
   refine Z9f ?_
   refine et_3 (i1:=2) (i2:=7) (i3:=8) (by kernel_rfl) ?_ ?_ ?_
   ·
    refine Z5q ?_
    refine et_2 (i1:=7) (i2:=8) (by kernel_rfl) ?_ ?_
    ·
     refine Zy ?_;intro bx88
     refine Zw ?_
     refine Z13 ?_;intro bx89
     refine Z1h ?_
     refine Zm ?_
     refine px_cut (bx88,bx89,bx87) ⟨rfl,rfl,rfl,trivial⟩ ?_ (fun _ s=>(s.arr 4 [2,1,0,3]))
     exact Z1
    refine Zy ?_;intro bx90
    refine Zc ?_
    refine Z13 ?_;intro bx91
    refine Z1i ?_
    refine Zm ?_
    refine px_cut (bx91,bx90,bx87) ⟨rfl,rfl,rfl,trivial⟩ ?_ (fun _ s=>(s.arr 4 [2,1,0,3]))
    exact Z1
   ·
    refine Zy ?_;intro bx92
    refine Z5s ?_ ?_
    ·
     refine Z1q ?_
     refine Zw ?_
     refine Z13 ?_;intro bx93
     refine Z1h ?_
     refine Zm ?_
     refine px_cut (bx92,bx93,bx87) ⟨rfl,rfl,rfl,trivial⟩ ?_ (fun _ s=>(s.arr 4 [2,1,0,3]))
     exact Z1
    refine Z1x ?_;intro bx94
    refine Z12 ?_
    refine Z1h ?_
    refine Zm ?_
    refine px_cut (bx92,bx94,bx87) ⟨rfl,rfl,rfl,trivial⟩ ?_ (fun _ s=>(s.arr 4 [2,1,0,3]))
    exact Z1
   refine Zy ?_;intro bx95
   refine Z5t ?_ ?_
   ·
    refine Z1q ?_
    refine Zc ?_
    refine Z13 ?_;intro bx96
    refine Z1i ?_
    refine Zm ?_
    refine px_cut (bx96,bx95,bx87) ⟨rfl,rfl,rfl,trivial⟩ ?_ (fun _ s=>(s.arr 4 [2,1,0,3]))
    exact Z1
   refine Z1x ?_;intro bx97
   refine Z12 ?_
   refine Z1i ?_
   refine Zm ?_
   refine px_cut (bx97,bx95,bx87) ⟨rfl,rfl,rfl,trivial⟩ ?_ (fun _ s=>(s.arr 4 [2,1,0,3]))
   exact Z1
  ·
   refine Zy ?_;intro bx98
   refine et_2 (i1:=1) (i2:=8) (by kernel_rfl) ?_ ?_
   ·
    refine Z5u ?_
    refine Z5s ?_ ?_
    ·
     refine Z1q ?_
     refine Zw ?_
     refine Z13 ?_;intro bx99
     refine Z1h ?_
     refine Zm ?_
     refine px_cut (bx98,bx99,bx87) ⟨rfl,rfl,rfl,trivial⟩ ?_ (fun _ s=>(s.arr 4 [2,1,0,3]))
     exact Z1
    refine Z1x ?_;intro bx100
    refine Z12 ?_
    refine Z1h ?_
    refine Zm ?_
    refine px_cut (bx98,bx100,bx87) ⟨rfl,rfl,rfl,trivial⟩ ?_ (fun _ s=>(s.arr 4 [2,1,0,3]))
    exact Z1
   refine Z1x ?_;intro bx101
   refine Z39 ?_
   refine Z5v ?_
   refine Z12 ?_
   refine Z1h ?_
   refine Zm ?_
   refine px_cut (bx98,bx101,bx87) ⟨rfl,rfl,rfl,trivial⟩ ?_ (fun _ s=>(s.arr 4 [2,1,0,3]))
   exact Z1
  refine Zy ?_;intro bx102
  refine et_2 (i1:=1) (i2:=7) (by kernel_rfl) ?_ ?_
  ·
   refine Z5u ?_
   refine Z5t ?_ ?_
   ·
    refine Z1q ?_
    refine Zc ?_
    refine Z13 ?_;intro bx103
    refine Z1i ?_
    refine Zm ?_
    refine px_cut (bx103,bx102,bx87) ⟨rfl,rfl,rfl,trivial⟩ ?_ (fun _ s=>(s.arr 4 [2,1,0,3]))
    exact Z1
   refine Z1x ?_;intro bx104
   refine Z12 ?_
   refine Z1i ?_
   refine Zm ?_
   refine px_cut (bx104,bx102,bx87) ⟨rfl,rfl,rfl,trivial⟩ ?_ (fun _ s=>(s.arr 4 [2,1,0,3]))
   exact Z1
  refine Z1x ?_;intro bx105
  refine Z39 ?_
  refine Z5v ?_
  refine Z12 ?_
  refine Z1i ?_
  refine Zm ?_
  refine px_cut (bx105,bx102,bx87) ⟨rfl,rfl,rfl,trivial⟩ ?_ (fun _ s=>(s.arr 4 [2,1,0,3]))
  exact Z1
 rintro ⟨b4,b5,b6⟩ f0;(try dsimp only)
 refine R6 ?_
 refine cd_loop2 (α:=Nat) [(7,11),(20,93)] (fun x=>[(20,.int .i64 (x:Int))]) (fun x=>Blk b6 (.cells (wC (rnds (layM bs) q.w.1 x)).toArray 146 (0,0))::Blk b4 (.cells (wC (layM bs)).toArray 150 (0,0))::Blk b5 (.cells (wC K64).toArray 150 (0,0))::Blk p (.cells (stC q).toArray 295 (0,0))::l) (fun x=>x≤64) (fun x=>64-x) 0 (Nat.zero_le _) ⟨rfl,trivial⟩ (fun _ s=>(s.arr 4 [2,0,1,3])) ?_
 rintro i hi f;(try dsimp only at hi ⊢)
 refine Z3 ?_ ?_
 ·intro hb1 hp1
  have hi64:i<64:=by omega
  obtain ⟨va,vb,vc,vd,ve,vf,vg,vh,hv⟩:=list_len8 (rnds_len (W:=layM bs) q.w.2 i)
  rw [hv]
  refine R10 ?_
  refine Zo ?_
  refine rg_q (wn_none rfl) (op_aidx0 0 a1_146 rfl rfl rfl (by omega)) rfl rfl ?_
  refine rg_q (wn_none rfl) (op_ld 0 sc_145 rfl rfl (wC_at0 (by first | omega | (simp;done) | (simp;omega)))) rfl rfl ?_
  refine rg_q (wn_none rfl) (op_aidx0 4 a1_146 rfl rfl rfl (by omega)) rfl rfl ?_
  refine rg_q (wn_none rfl) (op_ld 0 sc_145 rfl rfl (wC_at0 (by first | omega | (simp;done) | (simp;omega)))) rfl rfl ?_
  refine R2 ?_
  refine Zu ?_
  refine R1 ?_
  refine cd_drawe (M:=[]) mx [3,5,8] ?_
  refine e_q 0 rfl (wn_none rfl) (op_aidx0 7 a1_146 rfl rfl rfl (by omega)) ?_
  refine e_q 1 rfl (wn_none rfl) (op_ld 0 sc_145 rfl rfl (wC_at0 (by first | omega | (simp;done) | (simp;omega)))) ?_
  refine e_q 2 rfl (wn_none rfl) (op_move (v:=.int _ _) rfl) ?_
  refine e_q 4 rfl (wn_none rfl) (op_move (v:=.int _ _) rfl) ?_
  refine e_q 7 rfl (wn_none rfl) (op_move (v:=.int _ _) rfl) ?_
  refine e_q 11 rfl (wn_none rfl) (op_move (v:=.int _ _) rfl) ?_
  refine e_q 12 rfl (wn_none rfl) (op_aidx0 5 a1_146 rfl rfl rfl (by omega)) ?_
  refine e_q 13 rfl (wn_none rfl) (op_ld 0 sc_145 rfl rfl (wC_at0 (by first | omega | (simp;done) | (simp;omega)))) ?_
  refine e_q 14 rfl (wn_none rfl) (op_and32 _ _ rfl rfl) ?_
  refine e_q 15 rfl (wn_none rfl) (op_move (v:=.int _ _) rfl) ?_
  refine e_q 16 rfl (wn_none rfl) (op_not32 _ rfl) ?_
  refine e_q 17 rfl (wn_none rfl) (op_aidx0 6 a1_146 rfl rfl rfl (by omega)) ?_
  refine e_q 18 rfl (wn_none rfl) (op_ld 0 sc_145 rfl rfl (wC_at0 (by first | omega | (simp;done) | (simp;omega)))) ?_
  refine e_q 19 rfl (wn_none rfl) (op_and32 _ _ rfl rfl) ?_
  refine e_q 20 rfl (wn_none rfl) (op_xor32 _ _ rfl rfl) ?_
  refine e_q 22 rfl (wn_none rfl) (op_move (v:=.int _ _) rfl) ?_
  refine e_q 23 rfl (wn_none rfl) (op_aidx0 _ a1_150 rfl rfl rfl (by omega)) ?_
  refine e_q 24 rfl (wn_none rfl) (op_ld 2 sc_145 rfl rfl (wC_gd (by rw [K64_len];omega))) ?_
  refine e_q 26 rfl (wn_none rfl) (op_move (v:=.int _ _) rfl) ?_
  refine e_q 27 rfl (wn_none rfl) (op_aidx0 _ a1_150 rfl rfl rfl (by omega)) ?_
  refine e_q 28 rfl (wn_none rfl) (op_ld 1 sc_145 rfl rfl (wC_gd (by rw [layM_len];omega))) ?_
  refine Z3t ?_
  refine ei_i rfl rfl (wn_none rfl) (os_call cb_223 rfl (fun w s=>turn_calls (k:=6) _  s (by decide) (by decide))) rfl ?_;rintro _ _ ⟨rfl,rfl⟩;refine ⟨[],rfl,?_⟩
  refine Z2e ?_
  refine ei_i rfl rfl (wn_none rfl) (os_call cb_223 rfl (fun w s=>turn_calls (k:=11) _  s (by decide) (by decide))) rfl ?_;rintro _ _ ⟨rfl,rfl⟩;refine ⟨[],rfl,?_⟩
  refine e_q 6 rfl (wn_none rfl) (op_xor32 _ _ rfl rfl) ?_
  refine Zw ?_
  refine ei_i rfl rfl (wn_none rfl) (os_call cb_223 rfl (fun w s=>turn_calls (k:=25) _  s (by decide) (by decide))) rfl ?_;rintro _ _ ⟨rfl,rfl⟩;refine ⟨[],rfl,?_⟩
  refine e_q 9 rfl (wn_none rfl) (op_xor32 _ _ rfl rfl) ?_
  refine e_q 10 rfl (wn_none rfl) (op_add32 _ _ rfl rfl) ?_
  refine e_q 21 rfl (wn_none rfl) (op_add32 _ _ rfl rfl) ?_
  refine e_q 25 rfl (wn_none rfl) (op_add32 _ _ rfl rfl) ?_
  refine e_q 29 rfl (wn_none rfl) (op_add32 _ _ rfl rfl) ?_
  refine e_q 30 rfl (wn_none rfl) (op_assign (v:=.int _ _) rfl) ?_
  refine Z9 ?_
  refine cd_drawe (M:=[]) mx [1,3,6] ?_
  refine Z4x ?_
  refine e_q 2 rfl (wn_none rfl) (op_move (v:=.int _ _) rfl) ?_
  refine Z59 ?_
  refine Z7o ?_
  refine e_q 9 rfl (wn_none rfl) (op_aidx0 1 a1_146 rfl rfl rfl (by omega)) ?_
  refine e_q 10 rfl (wn_none rfl) (op_ld 0 sc_145 rfl rfl (wC_at0 (by first | omega | (simp;done) | (simp;omega)))) ?_
  refine e_q 11 rfl (wn_none rfl) (op_and32 _ _ rfl rfl) ?_
  refine e_q 12 rfl (wn_none rfl) (op_move (v:=.int _ _) rfl) ?_
  refine e_q 13 rfl (wn_none rfl) (op_aidx0 2 a1_146 rfl rfl rfl (by omega)) ?_
  refine e_q 14 rfl (wn_none rfl) (op_ld 0 sc_145 rfl rfl (wC_at0 (by first | omega | (simp;done) | (simp;omega)))) ?_
  refine e_q 15 rfl (wn_none rfl) (op_and32 _ _ rfl rfl) ?_
  refine e_q 16 rfl (wn_none rfl) (op_xor32 _ _ rfl rfl) ?_
  refine e_q 17 rfl (wn_none rfl) (op_aidx0 1 a1_146 rfl rfl rfl (by omega)) ?_
  refine e_q 18 rfl (wn_none rfl) (op_ld 0 sc_145 rfl rfl (wC_at0 (by first | omega | (simp;done) | (simp;omega)))) ?_
  refine e_q 19 rfl (wn_none rfl) (op_aidx0 2 a1_146 rfl rfl rfl (by omega)) ?_
  refine e_q 20 rfl (wn_none rfl) (op_ld 0 sc_145 rfl rfl (wC_at0 (by first | omega | (simp;done) | (simp;omega)))) ?_
  refine e_q 21 rfl (wn_none rfl) (op_and32 _ _ rfl rfl) ?_
  refine e_q 22 rfl (wn_none rfl) (op_xor32 _ _ rfl rfl) ?_
  refine Z39 ?_
  refine ei_i rfl rfl (wn_none rfl) (os_call cb_223 rfl (fun w s=>turn_calls (k:=2) _  s (by decide) (by decide))) rfl ?_;rintro _ _ ⟨rfl,rfl⟩;refine ⟨[],rfl,?_⟩
  refine Z3t ?_
  refine ei_i rfl rfl (wn_none rfl) (os_call cb_223 rfl (fun w s=>turn_calls (k:=13) _  s (by decide) (by decide))) rfl ?_;rintro _ _ ⟨rfl,rfl⟩;refine ⟨[],rfl,?_⟩
  refine e_q 4 rfl (wn_none rfl) (op_xor32 _ _ rfl rfl) ?_
  refine Zs ?_
  refine ei_i rfl rfl (wn_none rfl) (os_call cb_223 rfl (fun w s=>turn_calls (k:=22) _  s (by decide) (by decide))) rfl ?_;rintro _ _ ⟨rfl,rfl⟩;refine ⟨[],rfl,?_⟩
  refine e_q 7 rfl (wn_none rfl) (op_xor32 _ _ rfl rfl) ?_
  refine e_q 23 rfl (wn_none rfl) (op_add32 _ _ rfl rfl) ?_
  refine e_q 24 rfl (wn_none rfl) (op_assign (v:=.int _ _) rfl) ?_
  refine Z9 ?_
  refine cd_drawt (M:=[]) mx [] 2 (by kernel_rfl) rfl rfl ?_
  dsimp only [List.take_succ_cons,List.take_zero,List.drop_succ_cons,List.drop_zero]
  refine rg_q (wn_none rfl) (op_slicea_from 1 a1_146 rfl rfl rfl (by decide)) rfl rfl ?_
  refine rg_q (wn_none rfl) (op_slicea_to 7 a1_146 rfl rfl rfl (by decide) (by decide)) rfl rfl ?_
  refine rg_tail0 ?_
  refine oi (os_copyw (wC [va,va,vb,vc,vd,ve,vf,vg]) 336 rfl s1_336 rfl rfl (by simp [wC_len]) (by simp [wC_len]) (wC_one _) (Free.zero _) rfl) ?_;rintro _ _ ⟨rfl,rfl⟩
  refine R3 ?_
  refine oq (op_aidx0 4 a1_146 rfl rfl rfl (by omega)) ?_
  refine oq (op_ld 0 sc_145 rfl rfl (wC_at0 (by first | omega | (simp;done) | (simp;omega)))) ?_
  refine R1 ?_
  refine Z2k ?_
  refine oq (op_aidx0 4 a1_146 rfl rfl rfl (by omega)) ?_
  refine Zam ?_
  refine R5 ?_
  refine Z2k ?_
  refine oq (op_aidx0 0 a1_146 rfl rfl rfl (by omega)) ?_
  refine Zam ?_
  refine R7 ?_
  refine px_loop2 (i+1) (by omega) (by (try dsimp only);omega) ⟨congrArg (Value.int .i64) (by simp),trivial⟩ ?_ (fun _ s=>(by (try dsimp only);rw [rnds,hv];exact s))
  exact Z0
 intro hb1 hp1
 obtain rfl:i=64:=by omega
 refine R10 ?_
 refine cd_loop2 (α:=Nat) [(12,12),(94,110)] (fun x=>[(94,.int .i64 (x:Int))]) (fun x=>Blk p (.cells (stC ⟨q.w.add (rnds (layM bs) q.w.1 64) x,q.rest,q.size⟩).toArray 295 (0,0))::Blk b6 (.cells (wC (rnds (layM bs) q.w.1 64)).toArray 146 (0,0))::l) (fun x=>x≤8) (fun x=>8-x) 0 (Nat.zero_le _) ⟨rfl,trivial⟩ (fun _ s=>by rw [W8.add_zero];exact (((s.del 2).del 1).pull 1)) ?_
 rintro j hj f;(try dsimp only at hj ⊢)
 refine Z3 ?_ ?_
 ·intro hb2 hp2
  have hj8:j<8:=by omega
  refine R9 ?_
  refine cd_drawt (M:=[]) mx [] 13 (by kernel_rfl) rfl rfl ?_
  dsimp only [List.take_succ_cons,List.take_zero,List.drop_succ_cons,List.drop_zero]
  refine R4 ?_
  refine rg_q (wn_none rfl) (op_aidx0 _ a1_146 rfl rfl rfl (by omega)) rfl rfl ?_
  refine rg_q (wn_none rfl) (op_ld 0 sc_145 rfl rfl (stC_wld _ _ _ _ hj8)) rfl rfl ?_
  refine R1 ?_
  refine rg_q (wn_none rfl) (op_aidx0 _ a1_146 rfl rfl rfl (by omega)) rfl rfl ?_
  refine rg_q (wn_none rfl) (op_ld 1 sc_145 rfl rfl (wC_gd (by rw [rnds_len q.w.2];omega))) rfl rfl ?_
  refine rg_q (wn_none rfl) (op_add32 _ _ rfl rfl) rfl rfl ?_
  refine R2 ?_
  refine rg_q (wn_none rfl) (op_aidx0 _ a1_146 rfl rfl rfl (by omega)) rfl rfl ?_
  refine rg_tail0 ?_
  refine oN (os_store (v:=.int _ _) sc_145 rfl rfl rfl (Nat.ble_eq_true_of_le (show j+1≤_ by rw [List.size_toArray,stC_len];omega)) (Free.zero _) (stC_wst _ _ _ _ hj8 rfl)) ?_;rintro _ _ ⟨rfl,rfl⟩
  refine R7 ?_
  refine Z85 ?_
  exact Z0
 intro hb2 hp2
 obtain rfl:j=8:=by omega
 refine R4 ?_
 exact px_end0 rfl (fun _ s=>(s.del 1)) ⟨rfl,rfl⟩
theorem add_calls {w0 w:World} {l:List HProp} (p:Nat) (w1:W8) (ro:Option Addr) (rc:Nat) (r:List UInt8) (n:Nat) (t:List UInt8) (hs:Sat w0 w ((Blk p (.cells (stC ⟨w1,⟨ro,(r).length,rc⟩,n⟩).toArray 295 (0,0)))::(Row 5 encU8 (.slice ro (r).length rc) (r))::l)) (hn:n+t.length<1000000000) (hr:r.length<64) :
  Calls Tryz.prog 175 #[.pointer (some ⟨p,0,none⟩),.string (B t)] w (Ret w0 fun v l'=>∃ ro rc,v=.tuple #[]∧l'=Blk p (.cells (stC ⟨runs w1 (r++t),⟨ro,(left (r++t)).length,rc⟩,n+t.length⟩).toArray 295 (0,0))::Row 5 encU8 (.slice ro (left (r++t)).length rc) (left (r++t))::l):=by
 have hrt:(r++t).length=r.length+t.length:=List.length_append
 refine calls_enter Tryz.func175 rfl rfl rfl hs ?_
 refine R4 ?_
 refine oq (op_ld 0 sc_41 rfl rfl (show (stC _).toArray[9]? = some (.int .u64 (n:Int)) from stC_a9 _)) ?_
 refine R1 ?_
 refine Z27 ?_
 refine Z86 ?_
 refine oq (op_addn rfl rfl (by omega)) ?_
 refine R2 ?_
 refine oN (os_store (v:=.int _ _) sc_41 rfl rfl rfl (by simp [stC_len]) (Free.zero _) (stC_s9 _ _)) ?_;rintro _ _ ⟨rfl,rfl⟩
 refine R7 ?_
 refine oq (op_ld 0 sc_97 rfl rfl (show (stC _).toArray[8]? = some (.slice ro r.length rc) from stC_a8 _)) ?_
 refine R1 ?_
 refine Z2 ?_
 refine oi (os_appendS rfl sB_97 Tryz.underlying9 zv_5 rfl rfl rfl (by omega) (by unfold maxLen;omega)) ?_;rintro _ _ ⟨ao1,ac1,rfl,rfl⟩
 refine Z32 ?_
 refine Z6x ?_
 refine R3 ?_
 refine cd_loop2 (α:=W8×List UInt8×Option Addr×Nat) [(23,43)] (fun x=>[]) (fun x=>Blk p (.cells (stC ⟨x.1,⟨x.2.2.1,(x.2.1).length,x.2.2.2⟩,n+t.length⟩).toArray 295 (0,0))::Row 5 encU8 (.slice x.2.2.1 (x.2.1).length x.2.2.2) (x.2.1)::l) (fun x=>runs x.1 x.2.1=runs w1 (r++t)∧left x.2.1=left (r++t)∧x.2.1.length≤(r++t).length) (fun x=>x.2.1.length) (w1,r++t,ao1,ac1) ⟨rfl,rfl,Nat.le_refl _⟩ trivial (fun _ s=>s) ?_
 rintro ⟨u,b,bo,bc⟩ ⟨h1,h2,h3⟩ f;dsimp only at h1 h2 h3 ⊢
 refine R5 ?_
 refine Z5w ?_
 refine Z4c ?_
 refine Z6 ?_ ?_
 ·intro hb1 hp1
  have hb64:64≤b.length:=by omega
  refine R8 ?_
  refine Z5w ?_
  refine Z2 ?_
  refine oi (os_slicerow_lend 64 sB_97 rfl rfl rfl rfl (by omega)) ?_;rintro _ _ ⟨rfl,rfl⟩
  refine Z2 ?_
  refine Zan ?_
  refine R7 ?_
  refine Z5w ?_
  refine Z2 ?_
  refine oi (os_slicerow_from 64 sB_97 rfl rfl rfl rfl (by omega)) ?_;rintro _ _ ⟨bo2,bc2,rfl,rfl⟩
  refine Z32 ?_
  refine Z6x ?_
  refine R2 ?_
  refine px_loop2 (blk8 u (b.take 64),b.drop 64,bo2,bc2) ⟨by rw [←h1,runs_ge (w:=u) hb64],by rw [←h2,left_ge hb64],by dsimp only;rw [List.length_drop];omega⟩ (by (try dsimp only);rw [List.length_drop];omega) trivial ?_ (fun _ s=>s)
  exact Z0
 intro hb1 hp1
 have hb64:b.length<64:=by omega
 refine R4 ?_
 have e1:runs w1 (r++t)=u:=by rw [←h1,runs_lt hb64]
 have e2:left (r++t)=b:=by rw [←h2,left_lt hb64]
 exact px_end0 rfl (fun _ s=>s) ⟨bo,bc,rfl,by rw [e1,e2]⟩
theorem end_calls {w0 w:World} {l:List HProp} (p:Nat) (w1:W8) (ro:Option Addr) (rc:Nat) (r:List UInt8) (n:Nat) (hs:Sat w0 w ((Blk p (.cells (stC ⟨w1,⟨ro,(r).length,rc⟩,n⟩).toArray 295 (0,0)))::(Row 5 encU8 (.slice ro (r).length rc) (r))::l)) (hr:r.length<64) (hn:n<1000000000) :
  Calls Tryz.prog 176 #[.pointer (some ⟨p,0,none⟩)] w (Ret w0 fun v l'=>v=.agg (rootC (outR (runs w1 (padM r n)))).toArray∧l'=l):=by
 have hz:zpad r.length=(119-r.length) % 64:=rfl
 have hpm:(padM r n).length=r.length+1+zpad r.length+8:=by unfold padM;simp [be64_len];omega
 refine calls_enter Tryz.func176 rfl rfl rfl hs ?_
 refine R1 ?_
 refine Zp ?_;intro bx1
 refine R6 ?_
 refine oq (op_ld 1 sc_41 rfl rfl (show (stC _).toArray[9]? = some (.int .u64 (n:Int)) from stC_a9 _)) ?_
 refine oq (op_muln (C:=8) rfl rfl (by omega)) ?_
 refine R8 ?_
 refine oq (op_ld 1 sc_97 rfl rfl (show (stC _).toArray[8]? = some (.slice ro r.length rc) from stC_a8 _)) ?_
 refine oi (os_bslice (E:=encU8) [_] (ys:=[128]) sB_97 zv_5 rfl rfl rfl rfl (by decide)) ?_;rintro _ _ ⟨ao1,rfl,rfl⟩
 refine Zg ?_
 refine oi (os_append (E:=encU8) rfl sB_97 zv_5 rfl rfl rfl (fun w s=>(rds_row 1 rfl rfl) [] w s) rfl (by simp;omega) (by unfold maxLen;simp;omega)) ?_;rintro _ _ ⟨ao2,ac2,rfl,rfl⟩
 refine R2 ?_
 refine Zg ?_
 refine Z6x ?_
 refine R4 ?_
 refine cd_loop2 (α:=Nat×Option Addr×Nat) [(22,37)] (fun x=>[]) (fun x=>Blk p (.cells (stC ⟨w1,⟨x.2.1,(r++[128]++List.replicate x.1 0).length,x.2.2⟩,n⟩).toArray 295 (0,0))::Row 5 encU8 (.slice x.2.1 (r++[128]++List.replicate x.1 0).length x.2.2) (r++[128]++List.replicate x.1 0)::Blk bx1 (.cells (rootC Root.zero).toArray 35 (0,0))::l) (fun x=>x.1≤zpad r.length) (fun x=>zpad r.length-x.1) (0,ao2,ac2) (Nat.zero_le _) trivial (fun _ s=>by rw [show r++[128]++List.replicate 0 0=r++[128] by simp];exact (s.del 2)) ?_
 rintro ⟨k,bo,bc⟩ hk f;dsimp only at hk ⊢;have hlk:(r++[128]++List.replicate k 0).length=r.length+1+k:=by simp;omega
 refine R5 ?_
 refine oq (op_ld 0 sc_97 rfl rfl (show (stC _).toArray[8]? = some (.slice bo (r++[128]++List.replicate k 0).length bc) from stC_a8 _)) ?_
 refine Z4c ?_
 refine oq (op_rem rfl rfl (by omega) (by omega)) ?_
 refine Z6 ?_ ?_
 ·intro hb1 hp1
  have hkz:k<zpad r.length:=by omega
  refine R8 ?_
  refine oq (op_ld 0 sc_97 rfl rfl (show (stC _).toArray[8]? = some (.slice bo (r++[128]++List.replicate k 0).length bc) from stC_a8 _)) ?_
  refine oi (os_bslice (E:=encU8) [_] (ys:=[0]) sB_97 zv_5 rfl rfl rfl rfl (by decide)) ?_;rintro _ _ ⟨ao3,rfl,rfl⟩
  refine Z7 ?_
  refine oi (os_append (E:=encU8) rfl sB_97 zv_5 rfl rfl rfl (fun w s=>(rds_row 1 rfl rfl) [] w s) rfl (by rw [hlk];simp;omega) (by unfold maxLen;rw [hlk];simp;omega)) ?_;rintro _ _ ⟨ao4,ac4,rfl,rfl⟩
  refine R2 ?_
  refine Z7 ?_
  refine Z6x ?_
  refine R2 ?_
  have e1:r++[128]++List.replicate (k+1) 0=r++[128]++List.replicate k 0++[0]:=by rw [List.replicate_succ'];simp
  refine px_loop2 (k+1,ao4,ac4) (by dsimp only;omega) (by (try dsimp only);omega) trivial ?_ (fun _ s=>(by (try dsimp only);rw [e1];exact (s.del 2)))
  exact Z0
 intro hb1 hp1
 obtain rfl:k=zpad r.length:=by omega
 refine R11 ?_
 refine cd_loop2 (α:=Nat×Option Addr×Nat) [(4,4),(38,56)] (fun x=>[(38,.int .i64 (x.1:Int))]) (fun x=>Blk p (.cells (stC ⟨w1,⟨x.2.1,(r++[128]++List.replicate (zpad r.length) 0++be64 (n*8) x.1).length,x.2.2⟩,n⟩).toArray 295 (0,0))::Row 5 encU8 (.slice x.2.1 (r++[128]++List.replicate (zpad r.length) 0++be64 (n*8) x.1).length x.2.2) (r++[128]++List.replicate (zpad r.length) 0++be64 (n*8) x.1)::Blk bx1 (.cells (rootC Root.zero).toArray 35 (0,0))::l) (fun x=>x.1≤8) (fun x=>8-x.1) (0,bo,bc) (Nat.zero_le _) ⟨rfl,trivial⟩ (fun _ s=>by rw [show r++[128]++List.replicate (zpad r.length) 0++be64 (n*8) 0=r++[128]++List.replicate (zpad r.length) 0 by simp [be64]];exact s) ?_
 rintro ⟨i,co,cc⟩ hi f;dsimp only at hi ⊢;have hl8:(r++[128]++List.replicate (zpad r.length) 0++be64 (n*8) i).length=r.length+1+zpad r.length+i:=by simp [be64_len];omega
 refine Z3 ?_ ?_
 ·intro hb2 hp2
  have hi8:i<8:=by omega
  refine R9 ?_
  refine cd_pull1 ?_
  refine cd_pull1 ?_
  refine cd_drawe (M:=[_,_]) mx [4,11,12,15] ?_
  refine Z4t ?_
  refine Z7l ?_
  refine e_q 2 rfl (wn_none rfl) (op_nilck rfl) ?_
  refine e_q 3 rfl (wn_none rfl) (op_field fld_295_1 rfl) ?_
  refine Z59 ?_
  refine e_q 6 rfl (wn_none rfl) (op_move (v:=.int _ _) rfl) ?_
  refine e_q 7 rfl (wn_none rfl) (op_mul rfl rfl (by omega) (by omega)) ?_
  refine e_q 8 rfl (wn_none rfl) (op_sub rfl rfl (by omega) (by omega)) ?_
  refine e_q 9 rfl (wn_none rfl) (op_shr_nat (m:=56-8*i) rfl (congrArg (Value.int .i64) (by omega)) (by show 56-8*i≤64;omega)) ?_
  refine e_q 10 rfl (wn_none rfl) (op_conv8 Tryz.underlying5 (by rw [Tryz.underlying41];rfl) rfl) ?_
  refine et_2 (i1:=4) (i2:=11) (by kernel_rfl) ?_ ?_
  ·
   refine ei_i rfl rfl (wn_none rfl) (os_q (op_ld 0 sc_97 rfl rfl (show (stC _).toArray[8]? = some (.slice co (r++[128]++List.replicate (zpad r.length) 0++be64 (n*8) i).length cc) from stC_a8 _))) rfl ?_;rintro _ _ ⟨rfl,rfl⟩;refine ⟨[_,_],rfl,?_⟩
   refine Z2b ?_
   refine ei_i rfl rfl (wn_none rfl) (os_bslice (E:=encU8) [_] (ys:=[_]) sB_97 zv_5 rfl rfl rfl rfl (by decide)) rfl ?_;rintro _ _ ⟨ao5,rfl,rfl⟩;refine ⟨[_,_,_],rfl,?_⟩
   refine Zj ?_
   refine Zao ?_;intro ao6 ac6
   refine e_q 13 rfl (wn_none rfl) (op_nilck rfl) ?_
   refine e_q 14 rfl (wn_none rfl) (op_field fld_295_1 rfl) ?_
   refine Z2s ?_
   refine Zap ?_
   refine Z7g ?_
   have e1:r++[128]++List.replicate (zpad r.length) 0++be64 (n*8) (i+1)=r++[128]++List.replicate (zpad r.length) 0++be64 (n*8) i++[UInt8.ofNat (n*8 / 2 ^ (56-8*i))]:=by rw [be64_succ];simp only [List.append_assoc]
   refine px_loop2 (i+1,ao6,ac6) (by dsimp only;omega) (by (try dsimp only);omega) ⟨congrArg (Value.int .i64) (by simp),trivial⟩ ?_ (fun _ s=>(by (try dsimp only);rw [e1];exact (s.del 2)))
   exact Z0
  refine ei_i rfl rfl (wn_none rfl) (os_bslice (E:=encU8) [_] (ys:=[_]) sB_97 zv_5 rfl rfl rfl rfl (by decide)) rfl ?_;rintro _ _ ⟨ao7,rfl,rfl⟩;refine ⟨[_,_,_],rfl,?_⟩
  refine Z1d ?_
  refine ei_i rfl rfl (wn_none rfl) (os_q (op_ld 1 sc_97 rfl rfl (show (stC _).toArray[8]? = some (.slice co (r++[128]++List.replicate (zpad r.length) 0++be64 (n*8) i).length cc) from stC_a8 _))) rfl ?_;rintro _ _ ⟨rfl,rfl⟩;refine ⟨[_,_,_],rfl,?_⟩
  refine Zj ?_
  refine Zao ?_;intro ao8 ac8
  refine e_q 13 rfl (wn_none rfl) (op_nilck rfl) ?_
  refine e_q 14 rfl (wn_none rfl) (op_field fld_295_1 rfl) ?_
  refine Z2s ?_
  refine Zap ?_
  refine Z7g ?_
  have e1:r++[128]++List.replicate (zpad r.length) 0++be64 (n*8) (i+1)=r++[128]++List.replicate (zpad r.length) 0++be64 (n*8) i++[UInt8.ofNat (n*8 / 2 ^ (56-8*i))]:=by rw [be64_succ];simp only [List.append_assoc]
  refine px_loop2 (i+1,ao8,ac8) (by dsimp only;omega) (by (try dsimp only);omega) ⟨congrArg (Value.int .i64) (by simp),trivial⟩ ?_ (fun _ s=>(by (try dsimp only);rw [e1];exact (s.del 2)))
  exact Z0
 intro hb2 hp2
 obtain rfl:i=8:=by omega
 refine R7 ?_
 refine cd_loop2 (α:=W8×List UInt8×Option Addr×Nat) [(57,77)] (fun x=>[]) (fun x=>Blk p (.cells (stC ⟨x.1,⟨x.2.2.1,(x.2.1).length,x.2.2.2⟩,n⟩).toArray 295 (0,0))::Row 5 encU8 (.slice x.2.2.1 (x.2.1).length x.2.2.2) (x.2.1)::Blk bx1 (.cells (rootC Root.zero).toArray 35 (0,0))::l) (fun x=>runs x.1 x.2.1=runs w1 (padM r n)∧x.2.1.length % 64=0∧x.2.1.length≤128) (fun x=>x.2.1.length) (w1,padM r n,co,cc) ⟨rfl,by dsimp only;omega,by dsimp only;omega⟩ trivial (fun _ s=>s) ?_
 rintro ⟨u,b,bo,bc⟩ ⟨h1,h2,h3⟩ f;dsimp only at h1 h2 h3 ⊢
 refine R5 ?_
 refine Z5w ?_
 refine Z4c ?_
 refine Z6 ?_ ?_
 ·intro hb3 hp3
  have hb64:64≤b.length:=by omega
  refine R9 ?_
  refine Z5w ?_
  refine Z2 ?_
  refine oi (os_slicerow_lend 64 sB_97 rfl rfl rfl rfl (by omega)) ?_;rintro _ _ ⟨rfl,rfl⟩
  refine Z2 ?_
  refine Zan ?_
  refine R8 ?_
  refine Z5w ?_
  refine Z2 ?_
  refine oi (os_slicerow_from 64 sB_97 rfl rfl rfl rfl (by omega)) ?_;rintro _ _ ⟨bo2,bc2,rfl,rfl⟩
  refine Z32 ?_
  refine Z6x ?_
  refine R1 ?_
  refine px_loop2 (blk8 u (b.take 64),b.drop 64,bo2,bc2) ⟨by rw [←h1,runs_ge (w:=u) hb64],by dsimp only;rw [List.length_drop];omega,by dsimp only;rw [List.length_drop];omega⟩ (by (try dsimp only);rw [List.length_drop];omega) trivial ?_ (fun _ s=>s)
  exact Z0
 intro hb3 hp3
 have hb0:b.length<64:=by omega
 refine R6 ?_
 refine Zp ?_;intro bx2
 refine R7 ?_
 refine oq (op_lda  1 ag_146 rfl rfl (stC_af0 _) (by simp [stC_len])) ?_
 refine R4 ?_
 refine cd_loop2 (α:=Nat) [(6,7),(82,112)] (fun x=>[(82,.int .i64 (x:Int))]) (fun x=>Blk bx2 (.cells (rootC (outN u x)).toArray 35 (0,0))::Blk bx1 (.cells (rootC Root.zero).toArray 35 (0,0))::l) (fun x=>x≤8) (fun x=>8-x) 0 (Nat.zero_le _) ⟨rfl,trivial⟩ (fun _ s=>by rw [outN_zero];exact ((s.del 2).del 1)) ?_
 rintro j hj f;(try dsimp only at hj ⊢)
 refine Z3 ?_ ?_
 ·intro hb4 hp4
  have hj8:j<8:=by omega
  refine R6 ?_
  refine oq (op_ixa _ arp_146 rfl rfl rfl (by omega) (wC_gd (ws:=u.1) (by rw [u.2];omega))) ?_
  refine R6 ?_
  refine Z3v ?_
  refine R1 ?_
  refine Z3v ?_
  refine R2 ?_
  refine Z3v ?_
  refine R2 ?_
  refine Z3v ?_
  refine R2 ?_
  refine oq (op_shr32 (m:=24) _ rfl rfl (by decide)) ?_
  refine Z6y ?_
  refine R1 ?_
  refine oq (op_shr32 (m:=16) _ rfl rfl (by decide)) ?_
  refine Z6y ?_
  refine R1 ?_
  refine oq (op_shr32 (m:=8) _ rfl rfl (by decide)) ?_
  refine Z6y ?_
  refine R1 ?_
  refine Z6y ?_
  refine oq (op_aidx0 (4*j) a1_35 rfl rfl (by omega) (by omega)) ?_
  refine oN (os_store (v:=.int _ _) sc_5 rfl rfl rfl (Nat.ble_eq_true_of_le (show 4*j+1≤_ by rw [List.size_toArray,rootC_len];omega)) (Free.zero _) (rootC_set _ _ _)) ?_;rintro _ _ ⟨rfl,rfl⟩
  refine oq (op_aidx0 (4*j+1) a1_35 rfl rfl (by omega) (by omega)) ?_
  refine oN (os_store (v:=.int _ _) sc_5 rfl rfl rfl (Nat.ble_eq_true_of_le (show 4*j+1+1≤_ by rw [List.size_toArray,rootC_len];omega)) (Free.zero _) (rootC_set _ _ _)) ?_;rintro _ _ ⟨rfl,rfl⟩
  refine oq (op_aidx0 (4*j+2) a1_35 rfl rfl (by omega) (by omega)) ?_
  refine oN (os_store (v:=.int _ _) sc_5 rfl rfl rfl (Nat.ble_eq_true_of_le (show 4*j+2+1≤_ by rw [List.size_toArray,rootC_len];omega)) (Free.zero _) (rootC_set _ _ _)) ?_;rintro _ _ ⟨rfl,rfl⟩
  refine oq (op_aidx0 (4*j+3) a1_35 rfl rfl (by omega) (by omega)) ?_
  refine oN (os_store (v:=.int _ _) sc_5 rfl rfl rfl (Nat.ble_eq_true_of_le (show 4*j+3+1≤_ by rw [List.size_toArray,rootC_len];omega)) (Free.zero _) (rootC_set _ _ _)) ?_;rintro _ _ ⟨rfl,rfl⟩
  refine R7 ?_
  refine px_loop2 (j+1) (by omega) (by (try dsimp only);omega) ⟨congrArg (Value.int .i64) (by simp),trivial⟩ ?_ (fun _ s=>(by (try dsimp only);rw [outN_succ u hj8];exact s))
  exact Z0
 intro hb4 hp4
 obtain rfl:j=8:=by omega
 refine R7 ?_
 refine Z2 ?_
 refine Z18 ?_
 have e9:runs w1 (padM r n)=u:=by rw [←h1,runs_lt hb0]
 exact px_rv1 rfl (rv_cella 0 ag_35 rfl rfl (rootC_take' _) (by simp [rootC_len])) (fun _ s=>((s.del 1).del 0)) ⟨by rw [e9];rfl,rfl⟩
theorem Of_calls {w0 w:World} {l:List HProp} (lo:Option Addr) (lc:Nat) (ts:List (List UInt8)) (hs:Sat w0 w (l)) (hr:Rds w0 l encStr lo ts) (hn:ts.flatten.length<100000000) (hlen:ts.length≤1000000) :
  Calls Tryz.prog 141 #[.slice lo ts.length lc] w (Ret w0 fun v l'=>v=.agg (rootC (shaM ts.flatten)).toArray∧l'=l):=by
 refine calls_enter Tryz.func141 rfl rfl rfl hs ?_
 refine R1 ?_
 refine Zp ?_;intro bx1
 refine R3 ?_
 refine oi (os_call cb_174 rfl (fun w s=>first_calls  s )) ?_;rintro _ l ⟨rfl,rfl⟩
 refine oq (op_build (L:=stC _) (vs:=[(0,.agg (w8C _).toArray)]) bB_295 rfl ⟨⟨by simp [Value.cells,w8C_len],by rw [stC_len];rfl⟩,trivial⟩ ((stC_b0 _ _ _).trans rfl)) ?_
 refine Z19 ?_;intro bx2
 refine R6 ?_
 refine oq (op_len_slice Tryz.underlying37 rfl) ?_
 refine R4 ?_
 refine cd_loop2 (α:=Nat×Option Addr×Nat) [(5,5),(11,18)] (fun x=>[(11,.int .i64 (x.1:Int))]) (fun x=>Blk bx2 (.cells (stC ⟨runs H8 (ts.take x.1).flatten,⟨x.2.1,(left (ts.take x.1).flatten).length,x.2.2⟩,(ts.take x.1).flatten.length⟩).toArray 295 (0,0))::Row 5 encU8 (.slice x.2.1 (left (ts.take x.1).flatten).length x.2.2) (left (ts.take x.1).flatten)::Blk bx1 (.cells (rootC Root.zero).toArray 35 (0,0))::l) (fun x=>x.1≤ts.length) (fun x=>ts.length-x.1) (0,none,0) (Nat.zero_le _) ⟨rfl,trivial⟩ (fun _ s=>by dsimp only;rw [List.take_zero,List.flatten_nil,left_nil,runs_nil];exact (Sat.rowNil s).pull 1) ?_
 rintro ⟨i,bo,bc⟩ hi f;(try dsimp only at hi ⊢)
 refine Z3 ?_ ?_
 ·intro hb1 hp1
  have hi1:i<ts.length:=by omega
  have e1:(ts.take (i+1)).flatten=(ts.take i).flatten++ts[i]:=by rw [List.take_succ_eq_append_getElem hi1,List.flatten_append,List.flatten_cons,List.flatten_nil,List.append_nil]
  have e2:=runs_append ts[i] _ (ts.take i).flatten H8 rfl
  have e3:ts.flatten.length=(ts.take (i+1)).flatten.length+(ts.drop (i+1)).flatten.length:=by rw [←List.length_append,←List.flatten_append,List.take_append_drop]
  rw [e1,List.length_append] at e3
  have e4:=left_length (ts.take i).flatten
  refine R5 ?_
  refine oq (op_index _ sB_37 rfl rfl rfl (((hr.cons _).cons _).cons _) rfl (by omega)) ?_
  refine oq (op_ldw sc_9 (((hr.cons _).cons _).cons _) rfl (by omega) rfl) ?_
  refine R6 ?_
  refine Z2 ?_
  refine Z2 ?_
  refine oi (os_call cb_175 rfl (fun w s=>add_calls _ _ _ _ _ _ _  s (by omega) (by omega))) ?_;rintro _ _ ⟨ro2,rc2,rfl,rfl⟩
  refine R7 ?_
  refine px_loop2 (i+1,ro2,rc2) (by dsimp only;omega) (by (try dsimp only);omega) ⟨congrArg (Value.int .i64) (by simp),trivial⟩ ?_ (fun _ s=>(by (try dsimp only);rw [e1,e2.1,e2.2,List.length_append];exact s))
  exact Z0
 intro hb1 hp1
 obtain rfl:i=ts.length:=by omega
 rw [List.take_length]
 have e4:=left_length ts.flatten
 refine R7 ?_
 refine Z2 ?_
 refine Z2 ?_
 refine oi (os_call cb_176 rfl (fun w s=>end_calls _ _ _ _ _ _  s (by omega) (by omega))) ?_;rintro _ _ ⟨rfl,rfl⟩
 refine Z18 ?_
 exact px_rv1 rfl (rv_cella 0 ag_35 rfl rfl (rootC_take' _) (by simp [rootC_len])) (fun _ s=>(s.del 0)) ⟨rfl,rfl⟩
theorem Mul64_calls {w0 w:World} {l:List HProp} (x y:Nat) (hs:Sat w0 w (l)) (hx:x<18446744073709551616) (hy:y<18446744073709551616) :
  Calls Tryz.prog 152 #[.int .u64 (x:Int),.int .u64 (y:Int)] w (Ret w0 fun v l'=>v=.tuple #[.int .u64 ((mul64 x y).1:Int),.int .u64 ((mul64 x y).2:Int)]∧l'=l):=by
 refine calls_enter Tryz.func152 rfl rfl rfl hs ?_
 refine R7 ?_
 refine oq (op_andlo rfl (by omega) rfl) ?_
 refine R5 ?_
 refine Z50 ?_
 refine R5 ?_
 refine oq (op_andlo rfl (by omega) rfl) ?_
 refine R5 ?_
 refine Z50 ?_
 refine R6 ?_
 refine oq (op_mulw64 rfl rfl) ?_
 refine R6 ?_
 refine oq (op_mulw64 rfl rfl) ?_
 refine R1 ?_
 refine Z50 ?_
 refine oq (op_addw64 rfl rfl) ?_
 refine R5 ?_
 refine oq (op_andlo rfl (by omega) rfl) ?_
 refine R5 ?_
 refine Z50 ?_
 refine R7 ?_
 refine oq (op_mulw64 rfl rfl) ?_
 refine oq (op_addw64 rfl rfl) ?_
 refine R6 ?_
 refine oq (op_mulw64 rfl rfl) ?_
 refine R1 ?_
 refine oq (op_addw64 rfl rfl) ?_
 refine R1 ?_
 refine Z50 ?_
 refine oq (op_addw64 rfl rfl) ?_
 refine R6 ?_
 refine oq (op_mulw64 rfl rfl) ?_
 refine R4 ?_
 exact px_ret2 rfl (v1:=.int _ _) (v2:=.int _ _) rfl rfl (fun _ s=>s) ⟨rfl,rfl⟩
theorem above_calls {w0 w:World} {l:List HProp} (x p:Nat) (power:Int) (hs:Sat w0 w (l)) (hx:x<18446744073709551616) :
  Calls Tryz.prog 111 #[.int .u64 (x:Int),.int .u64 (p:Int),.int .i64 power] w (Ret w0 fun v l'=>v=.bool (aboveM x p power)∧l'=l):=by
 refine calls_enter Tryz.func111 rfl rfl rfl hs ?_
 refine R7 ?_
 refine oi (os_call cb_152 rfl (fun w s=>Mul64_calls _ _  s hx hx)) ?_;rintro _ _ ⟨rfl,rfl⟩
 refine R13 ?_
 refine Z4 ?_ ?_
 ·intro hb1 hp1
  have hpow:power=2:=by omega
  refine R5 ?_
  refine ols 28 rfl ?_ ?_
  ·intro hb2 hp2
   refine Zx ?_
   refine Zx ?_
   refine Z47 ?_
   refine Z3s ?_
   refine Z1w ?_
   refine R5 ?_
   exact px_ret1 rfl (v:=.bool _) rfl (fun _ s=>s) ⟨congrArg Value.bool (by unfold aboveM;rw [if_pos hpow,decide_eq_true (show p<(mul64 x x).1 by omega)];rfl),rfl⟩
  intro hb2 hp2
  refine Z2a ?_
  refine Z2a ?_
  refine ol_q (wn_some rfl rfl rfl hb2 rfl) (op_eqn rfl rfl) rfl ?_
  refine ol_q (wn_some rfl rfl rfl hb2 rfl) (op_move (v:=.bool _) rfl) rfl ?_
  refine ols 32 rfl ?_ ?_
  ·intro hb3 hp3
   refine Z2h ?_
   refine Z3g ?_
   refine ol_q (wn_some rfl rfl rfl hb2 rfl) (op_pick_t (v:=.bool _) rfl hb3 rfl) rfl ?_
   refine Z1o ?_
   refine R5 ?_
   exact px_ret1 rfl (v:=.bool _) rfl (fun _ s=>s) ⟨congrArg Value.bool (by unfold aboveM;rw [if_pos hpow,decide_eq_false (show ¬ p<(mul64 x x).1 by omega),decide_eq_true (show (mul64 x x).1=p by omega),Bool.false_or,Bool.true_and];exact decide_eq_decide.2 (by omega)),rfl⟩
  intro hb3 hp3
  refine Z1b ?_
  refine ol_q (wn_some rfl rfl rfl hb2 rfl) (op_pick_f (v:=.bool _) rfl hb3 rfl) rfl ?_
  refine Z1o ?_
  refine R5 ?_
  exact px_ret1 rfl (v:=.bool _) rfl (fun _ s=>s) ⟨congrArg Value.bool (by unfold aboveM;rw [if_pos hpow,decide_eq_false (show ¬ p<(mul64 x x).1 by omega),decide_eq_false (show ¬ (mul64 x x).1=p by omega)];rfl),rfl⟩
 intro hb1 hp1
 have hpow:¬ power=2:=by omega
 refine R5 ?_
 refine oi (os_call cb_152 rfl (fun w s=>Mul64_calls _ _  s (mul64_lt _ _).1 hx)) ?_;rintro _ _ ⟨rfl,rfl⟩
 refine R10 ?_
 refine oi (os_call cb_152 rfl (fun w s=>Mul64_calls _ _  s (mul64_lt _ _).2 hx)) ?_;rintro _ _ ⟨rfl,rfl⟩
 refine R10 ?_
 refine oq (op_add64x Tryz.func153 (by kernel_rfl) (by kernel_rfl) (by kernel_rfl) (by kernel_rfl) rfl rfl rfl) ?_
 refine R10 ?_
 refine oq (op_addw64 rfl rfl) ?_
 refine R7 ?_
 refine Z50 ?_
 refine Z6 ?_ ?_
 ·intro hb4 hp4
  refine R3 ?_
  refine Z50 ?_
  refine R6 ?_
  exact px_ret1 rfl (v:=.bool _) rfl (fun _ s=>s) ⟨congrArg Value.bool (by unfold aboveM;rw [if_neg hpow,if_pos (show (((mul64 (mul64 x x).1 x).1+((mul64 (mul64 x x).1 x).2+(mul64 (mul64 x x).2 x).1) / 18446744073709551616) % 18446744073709551616)≠p / 2 ^ 32 by omega)];exact decide_eq_decide.2 (by omega)),rfl⟩
 intro hb4 hp4
 refine R4 ?_
 refine oq (op_shlw64 (m:=32) rfl rfl (by decide)) ?_
 refine R10 ?_
 refine Z4 ?_ ?_
 ·intro hb5 hp5
  refine R9 ?_
  exact px_ret1 rfl (v:=.bool _) rfl (fun _ s=>s) ⟨congrArg Value.bool (by unfold aboveM;rw [if_neg hpow,if_neg (show ¬ (((mul64 (mul64 x x).1 x).1+((mul64 (mul64 x x).1 x).2+(mul64 (mul64 x x).2 x).1) / 18446744073709551616) % 18446744073709551616)≠p / 2 ^ 32 by omega),if_pos (show (((mul64 (mul64 x x).1 x).2+(mul64 (mul64 x x).2 x).1) % 18446744073709551616)≠(p*2 ^ 32 % 18446744073709551616) by omega)];exact decide_eq_decide.2 (by omega)),rfl⟩
 intro hb5 hp5
 refine R9 ?_
 exact px_ret1 rfl (v:=.bool _) rfl (fun _ s=>s) ⟨congrArg Value.bool (by unfold aboveM;rw [if_neg hpow,if_neg (show ¬ (((mul64 (mul64 x x).1 x).1+((mul64 (mul64 x x).1 x).2+(mul64 (mul64 x x).2 x).1) / 18446744073709551616) % 18446744073709551616)≠p / 2 ^ 32 by omega),if_neg (show ¬ (((mul64 (mul64 x x).1 x).2+(mul64 (mul64 x x).2 x).1) % 18446744073709551616)≠(p*2 ^ 32 % 18446744073709551616) by omega)];exact decide_eq_decide.2 (by omega)),rfl⟩
theorem right_calls {w0 w:World} {l:List HProp} (X:UInt32) (k:Int) (hs:Sat w0 w (l)) (h0:0<k) (h1:k<32) :
  Calls Tryz.prog 112 #[.int .u32 (X.toNat:Int),.int .i64 k] w (Ret w0 fun v l'=>v=.int .u32 ((rotr X k.toNat).toNat:Int)∧l'=l):=by
 refine calls_enter Tryz.func112 rfl rfl rfl hs ?_
 refine R7 ?_
 refine oq (op_conv64m (k.toNat) Tryz.underlying25 (by rw [Tryz.underlying3];rfl) rfl (by omega) (by omega)) ?_
 refine oq (op_shr32 (m:=k.toNat) _ rfl rfl (by omega)) ?_
 refine R3 ?_
 refine oq (op_conv64m (32-k.toNat) Tryz.underlying25 (by rw [Tryz.underlying3];rfl) rfl (by omega) (by omega)) ?_
 refine oq (op_shl32 (m:=32-k.toNat) _ rfl rfl (by omega)) ?_
 refine oq (op_or32 _ _ rfl rfl) ?_
 refine R4 ?_
 exact px_ret1 rfl (v:=.int _ _) rfl (fun _ s=>s) ⟨by unfold rotr;rw [UInt32.or_comm],rfl⟩
theorem root_calls {w0 w:World} {l:List HProp} (p:Nat) (power:Int) (hs:Sat w0 w (l))  :
  Calls Tryz.prog 68 #[.int .u64 (p:Int),.int .i64 power] w (Ret w0 fun v l'=>v=.int .u32 ((rootM p power).toNat:Int)∧l'=l):=by
 refine calls_enter Tryz.func68 rfl rfl rfl hs ?_
 refine R14 ?_
 refine cd_loop2 (α:=Nat) [(5,24)] (fun x=>[(5,.int .u64 (rootN p power x:Int)),(6,.int .i64 (39-(x:Int)))]) (fun _=>_) (fun x=>x≤40) (fun x=>40-x) 0 (Nat.zero_le _) ⟨rfl,congrArg (Value.int .i64) (by simp),trivial⟩ (fun _ s=>s) ?_
 rintro i hi f;(try dsimp only at hi ⊢)
 refine Z1u ?_ ?_
 ·intro hb1 hp1
  have hi40:i<40:=by omega
  refine R7 ?_
  refine Zcb ?_
  refine oq (op_addw64 rfl rfl) ?_
  refine R2 ?_
  refine oi (os_call cb_111 rfl (fun w s=>above_calls _ _ _  s (Nat.mod_lt _ (by decide)))) ?_;rintro _ _ ⟨rfl,rfl⟩
  refine Z6 ?_ ?_
  ·intro hb2 hp2
   refine R3 ?_
   refine Zcb ?_
   refine oq (op_addw64 rfl rfl) ?_
   refine R9 ?_
   have e1:rootN p power (i+1)=(rootN p power i+1*2 ^ (39-i)) % 18446744073709551616:=by rw [rootN,if_neg (by simpa using hb2)]
   refine Zaq ?_
   exact Z0
  intro hb2 hp2
  refine R8 ?_
  have e1:rootN p power (i+1)=rootN p power i:=by rw [rootN,if_pos (by simpa using hb2)]
  refine Zaq ?_
  exact Z0
 intro hb1 hp1
 obtain rfl:i=40:=by omega
 refine R7 ?_
 refine oq (op_remn (C:=4294967296) rfl rfl (by first | decide | omega)) ?_
 refine oq (op_conv32 Tryz.underlying145 (by rw [Tryz.underlying41];rfl) rfl) ?_
 refine R4 ?_
 exact Z2p
theorem primes_calls {w0 w:World} {l:List HProp} (n:Int) (hs:Sat w0 w (l)) (h0:0≤n) (h1:n≤64) :
  Calls Tryz.prog 67 #[.int .i64 n] w (Ret w0 fun v l'=>∃ ao c,v=.slice ao (prm n.toNat).length c∧l'=Row 41 encU64 (.slice ao (prm n.toNat).length c) (prm n.toNat)::l):=by
 refine calls_enter Tryz.func67 rfl rfl rfl hs ?_
 refine R14 ?_
 refine cd_loop2 (α:=Nat×Option Addr×Nat) [(3,5),(7,32)] (fun x=>[(3,.slice x.2.1 (PLs x.1).length x.2.2),(4,.int .u64 ((x.1+2:Nat):Int))]) (fun x=>Row 41 encU64 (.slice x.2.1 (PLs x.1).length x.2.2) (PLs x.1)::l) (fun x=>x.1≤310∧((PLs x.1).length:Int)≤n) (fun x=>310-x.1) (0,none,0) ⟨Nat.zero_le _,h0⟩ ⟨rfl,rfl,trivial⟩ (fun _ s=>Sat.rowNil s) ?_
 rintro ⟨i,vo,vc⟩ ⟨hi,hlen⟩ f;(try dsimp only at hi hlen ⊢)
 refine R3 ?_
 refine oq (op_len_slice Tryz.underlying147 rfl) ?_
 refine R4 ?_
 refine Z4 ?_ ?_
 ·intro hb1 hp1
  have hlt:((PLs i).length:Int)<n:=hp1
  have hi310:i<310:=by
   rcases Nat.lt_or_ge i 310 with h | h
   ·exact h
   have e9:i=310:=by omega
   rw [e9,PLs_64] at hlt
   omega
  refine R11 ?_
  refine oq (op_len_slice Tryz.underlying147 rfl) ?_
  refine R4 ?_
  refine cd_loop2 (α:=Nat) [(5,5),(7,7),(16,27)] (fun x=>[(5,.bool (((PLs i).take x).all (fun p=>decide ((i+2) % p≠0)))),(16,.int .i64 (x:Int))]) (fun _=>_) (fun x=>x≤(PLs i).length) (fun x=>(PLs i).length-x) 0 (Nat.zero_le _) ⟨rfl,rfl,trivial⟩ (fun _ s=>s) ?_
  rintro j hj f;(try dsimp only at hj ⊢)
  refine Z3 ?_ ?_
  ·intro hb2 hp2
   have hj1:j<(PLs i).length:=by omega
   have hrg:=PLs_rg i (PLs i)[j] (List.getElem_mem hj1)
   have hp0:0<(PLs i)[j]:=by omega
   refine R5 ?_
   refine oq (op_index _ sB_147 rfl rfl rfl (rds_row 0 rfl rfl) rfl (by omega)) ?_
   refine oq (op_ldw sc_41 (rds_row 0 rfl rfl) rfl (by omega) rfl) ?_
   refine R6 ?_
   refine ols 21 rfl ?_ ?_
   ·intro hb3 hp3
    refine Z2h ?_
    refine Z2h ?_
    refine ol_q (wn_some rfl rfl rfl hb3 rfl) (op_remn rfl rfl hp0) rfl ?_
    refine ol_q (wn_some rfl rfl rfl hb3 rfl) (op_ne rfl rfl) rfl ?_
    refine Z25 ?_
    refine R8 ?_
    have e1:=all_step (fun p=>decide ((i+2) % p≠0)) hj1
    refine Zar ?_
    exact Z0
   intro hb3 hp3
   refine Z1b ?_
   refine Z1b ?_
   refine Z1v ?_
   refine R8 ?_
   have e1:=all_step (fun p=>decide ((i+2) % p≠0)) hj1
   refine Zar ?_
   exact Z0
  intro hb2 hp2
  obtain rfl:j=(PLs i).length:=by omega
  rw [List.take_length]
  refine R9 ?_
  refine Z4 ?_ ?_
  ·intro hb4 hp4
   refine R3 ?_
   refine oi (os_bslice (E:=encU64) [_] (ys:=[_]) sB_147 zv_41 rfl rfl rfl rfl (by decide)) ?_;rintro _ _ ⟨ao1,rfl,rfl⟩
   refine Z2 ?_
   refine oi (os_append (E:=encU64) rfl sB_147 zv_41 rfl rfl rfl (fun w s=>(rds_row 1 rfl rfl) [] w s) rfl (by simp;omega) (by unfold maxLen;simp;omega)) ?_;rintro _ _ ⟨ao2,ac2,rfl,rfl⟩
   refine R6 ?_
   refine oq (op_addn (C:=1) rfl rfl (by omega)) ?_
   refine R2 ?_
   have e2:PLs (i+1)=PLs i++[i+2]:=by rw [PLs_step,if_pos hb4]
   have e3:=PLs_len_le (i:=i)
   refine px_loop2 (i+1,ao2,ac2) ⟨by dsimp only;omega,by dsimp only;omega⟩ (by (try dsimp only);omega) ⟨congrArg (fun q=>Value.slice ao2 (List.length q) ac2) e2.symm,congrArg (Value.int .u64) (by omega),trivial⟩ ?_ (fun _ s=>(by (try dsimp only);rw [e2];exact (s.del 1)))
   exact Z0
  intro hb4 hp4
  refine R5 ?_
  refine oq (op_addn (C:=1) rfl rfl (by omega)) ?_
  refine R2 ?_
  have e2:PLs (i+1)=PLs i:=by rw [PLs_step,if_neg (by rw [hb4];simp)]
  have e3:=PLs_len_le (i:=i)
  refine px_loop2 (i+1,vo,vc) ⟨by dsimp only;omega,by dsimp only;omega⟩ (by (try dsimp only);omega) ⟨congrArg (fun q=>Value.slice vo (List.length q) vc) e2.symm,congrArg (Value.int .u64) (by omega),trivial⟩ ?_ (fun _ s=>(by (try dsimp only);rw [e2];exact s))
  exact Z0
 intro hb1 hp1
 have hprm:PLs i=prm n.toNat:=PLs_is hi (by omega)
 rw [hprm]
 refine R11 ?_
 exact Z8z
end Go.SL
set_option linter.unusedVariables false
set_option linter.unusedSimpArgs false
set_option linter.unusedSectionVars false
set_option maxHeartbeats 1000000
set_option maxRecDepth 100000
namespace Go.SL
open Go.Proofs
theorem block_calls {w0 w:World} {l:List HProp} (h:W8) (s:List UInt8) (hs:Sat w0 w (l)) (hs64:s.length=64) :
  Calls Tryz.prog 69 #[.agg (w8C h).toArray,.agg (wC K64).toArray,.string (B s)] w (Ret w0 fun v l'=>v=.agg (w8C (blk8 h s)).toArray∧l'=l):=by
 refine calls_enter Tryz.func69 rfl rfl rfl hs ?_
 refine Z1s ?_;intro bx1 bx2
 refine Z9d ?_;intro bx3
 refine R3 ?_
 refine Z6t ?_;intro bx4
 refine R8 ?_
 refine cd_loop2 (α:=Nat) [(8,11),(23,83)] (fun x=>[(23,.int .i64 (x:Int))]) (fun x=>Blk bx4 (.cells (wC (fillA ((layM s).take x))).toArray 150 (0,0))::Blk bx3 (.cells (wC (List.replicate 8 0)).toArray 146 (0,0))::Blk bx2 (.cells (wC K64).toArray 150 (0,0))::Blk bx1 (.cells (w8C h).toArray 146 (0,0))::l) (fun x=>x≤64) (fun x=>64-x) 0 (Nat.zero_le _) ⟨rfl,trivial⟩ (fun _ s=>s) ?_
 rintro i hi f;(try dsimp only at hi ⊢)
 have hml:((layM s).take i).length=i:=by rw [List.length_take,layM_len];omega
 refine Z3 ?_ ?_
 ·intro hb1 hp1
  have hi64:i<64:=by omega
  refine R15 ?_
  refine Z4 ?_ ?_
  ·intro hb2 hp2
   have hi16:i<16:=by omega
   refine R6 ?_
   refine cd_loop2 (α:=Nat) [(9,9),(28,45)] (fun x=>[(9,.int .i64 (x:Int))]) (fun x=>Blk bx4 (.cells (wC (fillA (((layM s).take i)++[accW s i x]))).toArray 150 (0,0))::Blk bx3 (.cells (wC (List.replicate 8 0)).toArray 146 (0,0))::Blk bx2 (.cells (wC K64).toArray 150 (0,0))::Blk bx1 (.cells (w8C h).toArray 146 (0,0))::l) (fun x=>x≤4) (fun x=>4-x) 0 (Nat.zero_le _) ⟨rfl,trivial⟩ (fun _ s1=>by (try dsimp only [accW]);show Sat _ _ (Blk bx4 (.cells (wC (fillA (((layM s).take i)++[0]))).toArray 150 (0,0))::Blk bx3 (.cells (wC (List.replicate 8 0)).toArray 146 (0,0))::Blk bx2 (.cells (wC K64).toArray 150 (0,0))::Blk bx1 (.cells (w8C h).toArray 146 (0,0))::l);rw [←fillA_zero (by rw [hml];omega)];exact s1) ?_
   rintro k hk f;(try dsimp only at hk ⊢)
   refine Z1u ?_ ?_
   ·intro hb3 hp3
    have hk4:k<4:=by omega
    refine R4 ?_
    refine cd_drawt (M:=[]) mx [] 14 (by kernel_rfl) rfl rfl ?_
    dsimp only [List.take_succ_cons,List.take_zero,List.drop_succ_cons,List.drop_zero]
    refine R2 ?_
    refine rg_q (wn_none rfl) (op_aidx0 i a1_150 rfl rfl rfl (by omega)) rfl rfl ?_
    refine rg_q (wn_none rfl) (op_ld 0 sc_145 rfl rfl (fillA_last hml.symm)) rfl rfl ?_
    refine rg_q (wn_none rfl) (op_mul32 _ 256 rfl rfl) rfl rfl ?_
    refine R2 ?_
    refine Z6u ?_
    refine R2 ?_
    refine rg_q (wn_none rfl) (op_sidx (4*i+k) Tryz.underlying9 rfl rfl (by first | rfl | omega) (by omega)) rfl rfl ?_
    refine Z6v ?_
    refine rg_q (wn_none rfl) (op_add32 _ _ rfl rfl) rfl rfl ?_
    refine rg_q (wn_none rfl) (op_aidx0 i a1_150 rfl rfl rfl (by omega)) rfl rfl ?_
    refine rg_tail0 ?_
    refine oN (os_store (v:=.int _ _) sc_145 rfl rfl rfl (Nat.ble_eq_true_of_le (show i+1≤_ by rw [List.size_toArray,wC_len,fillA_len (by rw [List.length_append,hml];show i+1≤64;omega)];omega)) (Free.zero _) (fillA_re hml.symm (by rw [hml];omega) _)) ?_;rintro _ _ ⟨rfl,rfl⟩
    refine R8 ?_
    refine px_loop2 (k+1) (by omega) (by (try dsimp only);omega) ⟨congrArg (Value.int .i64) (by simp),trivial⟩ ?_ (fun _ s=>s)
    exact Z0
   intro hb3 hp3
   obtain rfl:k=4:=by omega
   rw [accW_word]
   refine R13 ?_
   have e1:=lay_first s hi16
   exact Ze
  intro hb2 hp2
  have hi16:16≤i:=by omega
  refine R3 ?_
  refine Zo ?_
  refine R2 ?_
  refine rg_q (wn_none rfl) (op_aidx0 (i-15) a1_150 rfl rfl (by omega) (by omega)) rfl rfl ?_
  refine Z84 ?_
  refine R2 ?_
  refine rg_q (wn_none rfl) (op_aidx0 (i-2) a1_150 rfl rfl (by omega) (by omega)) rfl rfl ?_
  refine Z84 ?_
  refine R2 ?_
  refine Zu ?_
  refine cd_drawe (M:=[_]) mx [4,8,11,13,20,22,29] ?_
  refine Z4x ?_
  refine Z4s ?_
  refine e_q 2 rfl (wn_none rfl) (op_sub rfl rfl (by omega) (by omega)) ?_
  refine e_q 3 rfl (wn_none rfl) (op_aidx0 (i-16) a1_150 rfl rfl (by omega) (by omega)) ?_
  refine Z59 ?_
  refine e_q 6 rfl (wn_none rfl) (op_sub rfl rfl (by omega) (by omega)) ?_
  refine e_q 7 rfl (wn_none rfl) (op_aidx0 (i-7) a1_150 rfl rfl (by omega) (by omega)) ?_
  refine e_q 10 rfl (wn_none rfl) (op_move (v:=.int _ _) rfl) ?_
  refine e_q 12 rfl (wn_none rfl) (op_move (v:=.int _ _) rfl) ?_
  refine e_q 15 rfl (wn_none rfl) (op_move (v:=.int _ _) rfl) ?_
  refine e_q 16 rfl (wn_none rfl) (op_shr32 (m:=3) _ rfl rfl (by decide)) ?_
  refine e_q 19 rfl (wn_none rfl) (op_move (v:=.int _ _) rfl) ?_
  refine e_q 21 rfl (wn_none rfl) (op_move (v:=.int _ _) rfl) ?_
  refine e_q 24 rfl (wn_none rfl) (op_move (v:=.int _ _) rfl) ?_
  refine e_q 25 rfl (wn_none rfl) (op_shr32 (m:=10) _ rfl rfl (by decide)) ?_
  refine et_3 (i1:=4) (i2:=8) (i3:=11) (by kernel_rfl) ?_ ?_ ?_
  ·
   refine Zd ?_
   refine et_2 (i1:=8) (i2:=11) (by kernel_rfl) ?_ ?_
   ·
    refine Zn ?_
    refine Z2b ?_
    refine Z6z ?_
    refine Z1a ?_
    refine Z3e ?_
    refine Z30 ?_
    have e1:=lay_next s hi16 hi64
    unfold next16 at e1
    rw [hml] at e1
    have e8:∀ (a b c d:UInt32),a+b+c+d=a+c+b+d:=fun a b c d=>by rw [UInt32.add_assoc a b c,UInt32.add_comm b c,←UInt32.add_assoc]
    rw [←e8] at e1
    exact Ze
   refine Z6z ?_
   refine et_2 (i1:=8) (i2:=13) (by kernel_rfl) ?_ ?_
   ·
    refine Zn ?_
    refine Z1a ?_
    refine Z3e ?_
    refine Z30 ?_
    have e1:=lay_next s hi16 hi64
    unfold next16 at e1
    rw [hml] at e1
    have e8:∀ (a b c d:UInt32),a+b+c+d=a+c+b+d:=fun a b c d=>by rw [UInt32.add_assoc a b c,UInt32.add_comm b c,←UInt32.add_assoc]
    rw [←e8] at e1
    exact Ze
   refine Z3e ?_
   refine et_2 (i1:=8) (i2:=20) (by kernel_rfl) ?_ ?_
   ·
    refine Zn ?_
    refine Z30 ?_
    have e1:=lay_next s hi16 hi64
    unfold next16 at e1
    rw [hml] at e1
    have e8:∀ (a b c d:UInt32),a+b+c+d=a+c+b+d:=fun a b c d=>by rw [UInt32.add_assoc a b c,UInt32.add_comm b c,←UInt32.add_assoc]
    rw [←e8] at e1
    exact Ze
   refine Z4h ?_
   refine et_2 (i1:=8) (i2:=22) (by kernel_rfl) ?_ ?_
   ·
    refine Zn ?_
    refine Z1l ?_
    refine Z46 ?_
    have e1:=lay_next s hi16 hi64
    unfold next16 at e1
    rw [hml] at e1
    have e8:∀ (a b c d:UInt32),a+b+c+d=a+c+b+d:=fun a b c d=>by rw [UInt32.add_assoc a b c,UInt32.add_comm b c,←UInt32.add_assoc]
    rw [←e8] at e1
    exact Ze
   refine Z3m ?_
   refine Z1m ?_
   refine Zw ?_
   refine Zn ?_
   refine Z1k ?_
   refine Z3a ?_
   have e1:=lay_next s hi16 hi64
   unfold next16 at e1
   rw [hml] at e1
   have e8:∀ (a b c d:UInt32),a+b+c+d=a+c+b+d:=fun a b c d=>by rw [UInt32.add_assoc a b c,UInt32.add_comm b c,←UInt32.add_assoc]
   rw [←e8] at e1
   exact Ze
  ·
   refine Zd ?_
   refine et_2 (i1:=4) (i2:=11) (by kernel_rfl) ?_ ?_
   ·
    refine Zn ?_
    refine Z2b ?_
    refine Z6z ?_
    refine Z1a ?_
    refine Z3e ?_
    refine Z30 ?_
    have e1:=lay_next s hi16 hi64
    unfold next16 at e1
    rw [hml] at e1
    have e8:∀ (a b c d:UInt32),a+b+c+d=a+c+b+d:=fun a b c d=>by rw [UInt32.add_assoc a b c,UInt32.add_comm b c,←UInt32.add_assoc]
    rw [←e8] at e1
    exact Ze
   refine Z6z ?_
   refine et_2 (i1:=4) (i2:=13) (by kernel_rfl) ?_ ?_
   ·
    refine Zn ?_
    refine Z1a ?_
    refine Z3e ?_
    refine Z30 ?_
    have e1:=lay_next s hi16 hi64
    unfold next16 at e1
    rw [hml] at e1
    have e8:∀ (a b c d:UInt32),a+b+c+d=a+c+b+d:=fun a b c d=>by rw [UInt32.add_assoc a b c,UInt32.add_comm b c,←UInt32.add_assoc]
    rw [←e8] at e1
    exact Ze
   refine Z3e ?_
   refine Z5o ?_ ?_
   ·
    refine Zn ?_
    refine Z30 ?_
    have e1:=lay_next s hi16 hi64
    unfold next16 at e1
    rw [hml] at e1
    have e8:∀ (a b c d:UInt32),a+b+c+d=a+c+b+d:=fun a b c d=>by rw [UInt32.add_assoc a b c,UInt32.add_comm b c,←UInt32.add_assoc]
    rw [←e8] at e1
    exact Ze
   refine Z4h ?_
   refine Z4g ?_ ?_
   ·
    refine Zn ?_
    refine Z1l ?_
    refine Z46 ?_
    have e1:=lay_next s hi16 hi64
    unfold next16 at e1
    rw [hml] at e1
    have e8:∀ (a b c d:UInt32),a+b+c+d=a+c+b+d:=fun a b c d=>by rw [UInt32.add_assoc a b c,UInt32.add_comm b c,←UInt32.add_assoc]
    rw [←e8] at e1
    exact Ze
   refine Z3m ?_
   refine Z1m ?_
   refine Z1d ?_
   refine Zn ?_
   refine Z1k ?_
   refine Z3a ?_
   have e1:=lay_next s hi16 hi64
   unfold next16 at e1
   rw [hml] at e1
   have e8:∀ (a b c d:UInt32),a+b+c+d=a+c+b+d:=fun a b c d=>by rw [UInt32.add_assoc a b c,UInt32.add_comm b c,←UInt32.add_assoc]
   rw [←e8] at e1
   exact Ze
  refine Z6z ?_
  refine et_3 (i1:=4) (i2:=8) (i3:=13) (by kernel_rfl) ?_ ?_ ?_
  ·
   refine Zd ?_
   refine et_2 (i1:=8) (i2:=13) (by kernel_rfl) ?_ ?_
   ·
    refine Zn ?_
    refine Z1a ?_
    refine Z3e ?_
    refine Z30 ?_
    have e1:=lay_next s hi16 hi64
    unfold next16 at e1
    rw [hml] at e1
    have e8:∀ (a b c d:UInt32),a+b+c+d=a+c+b+d:=fun a b c d=>by rw [UInt32.add_assoc a b c,UInt32.add_comm b c,←UInt32.add_assoc]
    rw [←e8] at e1
    exact Ze
   refine Z3e ?_
   refine et_2 (i1:=8) (i2:=20) (by kernel_rfl) ?_ ?_
   ·
    refine Zn ?_
    refine Z30 ?_
    have e1:=lay_next s hi16 hi64
    unfold next16 at e1
    rw [hml] at e1
    have e8:∀ (a b c d:UInt32),a+b+c+d=a+c+b+d:=fun a b c d=>by rw [UInt32.add_assoc a b c,UInt32.add_comm b c,←UInt32.add_assoc]
    rw [←e8] at e1
    exact Ze
   refine Z4h ?_
   refine et_2 (i1:=8) (i2:=22) (by kernel_rfl) ?_ ?_
   ·
    refine Zn ?_
    refine Z1l ?_
    refine Z46 ?_
    have e1:=lay_next s hi16 hi64
    unfold next16 at e1
    rw [hml] at e1
    have e8:∀ (a b c d:UInt32),a+b+c+d=a+c+b+d:=fun a b c d=>by rw [UInt32.add_assoc a b c,UInt32.add_comm b c,←UInt32.add_assoc]
    rw [←e8] at e1
    exact Ze
   refine Z3m ?_
   refine Z1m ?_
   refine Zw ?_
   refine Zn ?_
   refine Z1k ?_
   refine Z3a ?_
   have e1:=lay_next s hi16 hi64
   unfold next16 at e1
   rw [hml] at e1
   have e8:∀ (a b c d:UInt32),a+b+c+d=a+c+b+d:=fun a b c d=>by rw [UInt32.add_assoc a b c,UInt32.add_comm b c,←UInt32.add_assoc]
   rw [←e8] at e1
   exact Ze
  ·
   refine Zd ?_
   refine et_2 (i1:=4) (i2:=13) (by kernel_rfl) ?_ ?_
   ·
    refine Zn ?_
    refine Z1a ?_
    refine Z3e ?_
    refine Z30 ?_
    have e1:=lay_next s hi16 hi64
    unfold next16 at e1
    rw [hml] at e1
    have e8:∀ (a b c d:UInt32),a+b+c+d=a+c+b+d:=fun a b c d=>by rw [UInt32.add_assoc a b c,UInt32.add_comm b c,←UInt32.add_assoc]
    rw [←e8] at e1
    exact Ze
   refine Z3e ?_
   refine Z5o ?_ ?_
   ·
    refine Zn ?_
    refine Z30 ?_
    have e1:=lay_next s hi16 hi64
    unfold next16 at e1
    rw [hml] at e1
    have e8:∀ (a b c d:UInt32),a+b+c+d=a+c+b+d:=fun a b c d=>by rw [UInt32.add_assoc a b c,UInt32.add_comm b c,←UInt32.add_assoc]
    rw [←e8] at e1
    exact Ze
   refine Z4h ?_
   refine Z4g ?_ ?_
   ·
    refine Zn ?_
    refine Z1l ?_
    refine Z46 ?_
    have e1:=lay_next s hi16 hi64
    unfold next16 at e1
    rw [hml] at e1
    have e8:∀ (a b c d:UInt32),a+b+c+d=a+c+b+d:=fun a b c d=>by rw [UInt32.add_assoc a b c,UInt32.add_comm b c,←UInt32.add_assoc]
    rw [←e8] at e1
    exact Ze
   refine Z3m ?_
   refine Z1m ?_
   refine Z1d ?_
   refine Zn ?_
   refine Z1k ?_
   refine Z3a ?_
   have e1:=lay_next s hi16 hi64
   unfold next16 at e1
   rw [hml] at e1
   have e8:∀ (a b c d:UInt32),a+b+c+d=a+c+b+d:=fun a b c d=>by rw [UInt32.add_assoc a b c,UInt32.add_comm b c,←UInt32.add_assoc]
   rw [←e8] at e1
   exact Ze
  refine Z3e ?_
  refine et_3 (i1:=4) (i2:=8) (i3:=20) (by kernel_rfl) ?_ ?_ ?_
  ·
   refine Zd ?_
   refine et_2 (i1:=8) (i2:=20) (by kernel_rfl) ?_ ?_
   ·
    refine Zn ?_
    refine Z30 ?_
    have e1:=lay_next s hi16 hi64
    unfold next16 at e1
    rw [hml] at e1
    have e8:∀ (a b c d:UInt32),a+b+c+d=a+c+b+d:=fun a b c d=>by rw [UInt32.add_assoc a b c,UInt32.add_comm b c,←UInt32.add_assoc]
    rw [←e8] at e1
    exact Ze
   refine Z4h ?_
   refine et_2 (i1:=8) (i2:=22) (by kernel_rfl) ?_ ?_
   ·
    refine Zn ?_
    refine Z1l ?_
    refine Z46 ?_
    have e1:=lay_next s hi16 hi64
    unfold next16 at e1
    rw [hml] at e1
    have e8:∀ (a b c d:UInt32),a+b+c+d=a+c+b+d:=fun a b c d=>by rw [UInt32.add_assoc a b c,UInt32.add_comm b c,←UInt32.add_assoc]
    rw [←e8] at e1
    exact Ze
   refine Z3m ?_
   refine Z1m ?_
   refine Zw ?_
   refine Zn ?_
   refine Z1k ?_
   refine Z3a ?_
   have e1:=lay_next s hi16 hi64
   unfold next16 at e1
   rw [hml] at e1
   have e8:∀ (a b c d:UInt32),a+b+c+d=a+c+b+d:=fun a b c d=>by rw [UInt32.add_assoc a b c,UInt32.add_comm b c,←UInt32.add_assoc]
   rw [←e8] at e1
   exact Ze
  ·
   refine Zd ?_
   refine Z5o ?_ ?_
   ·
    refine Zn ?_
    refine Z30 ?_
    have e1:=lay_next s hi16 hi64
    unfold next16 at e1
    rw [hml] at e1
    have e8:∀ (a b c d:UInt32),a+b+c+d=a+c+b+d:=fun a b c d=>by rw [UInt32.add_assoc a b c,UInt32.add_comm b c,←UInt32.add_assoc]
    rw [←e8] at e1
    exact Ze
   refine Z4h ?_
   refine Z4g ?_ ?_
   ·
    refine Zn ?_
    refine Z1l ?_
    refine Z46 ?_
    have e1:=lay_next s hi16 hi64
    unfold next16 at e1
    rw [hml] at e1
    have e8:∀ (a b c d:UInt32),a+b+c+d=a+c+b+d:=fun a b c d=>by rw [UInt32.add_assoc a b c,UInt32.add_comm b c,←UInt32.add_assoc]
    rw [←e8] at e1
    exact Ze
   refine Z3m ?_
   refine Z1m ?_
   refine Z1d ?_
   refine Zn ?_
   refine Z1k ?_
   refine Z3a ?_
   have e1:=lay_next s hi16 hi64
   unfold next16 at e1
   rw [hml] at e1
   have e8:∀ (a b c d:UInt32),a+b+c+d=a+c+b+d:=fun a b c d=>by rw [UInt32.add_assoc a b c,UInt32.add_comm b c,←UInt32.add_assoc]
   rw [←e8] at e1
   exact Ze
  refine Z4h ?_
  refine et_3 (i1:=4) (i2:=8) (i3:=22) (by kernel_rfl) ?_ ?_ ?_
  ·
   refine Zd ?_
   refine et_2 (i1:=8) (i2:=22) (by kernel_rfl) ?_ ?_
   ·
    refine Zn ?_
    refine Z1l ?_
    refine Z46 ?_
    have e1:=lay_next s hi16 hi64
    unfold next16 at e1
    rw [hml] at e1
    have e8:∀ (a b c d:UInt32),a+b+c+d=a+c+b+d:=fun a b c d=>by rw [UInt32.add_assoc a b c,UInt32.add_comm b c,←UInt32.add_assoc]
    rw [←e8] at e1
    exact Ze
   refine Z3m ?_
   refine Z1m ?_
   refine Zw ?_
   refine Zn ?_
   refine Z1k ?_
   refine Z3a ?_
   have e1:=lay_next s hi16 hi64
   unfold next16 at e1
   rw [hml] at e1
   have e8:∀ (a b c d:UInt32),a+b+c+d=a+c+b+d:=fun a b c d=>by rw [UInt32.add_assoc a b c,UInt32.add_comm b c,←UInt32.add_assoc]
   rw [←e8] at e1
   exact Ze
  ·
   refine Zd ?_
   refine Z4g ?_ ?_
   ·
    refine Zn ?_
    refine Z1l ?_
    refine Z46 ?_
    have e1:=lay_next s hi16 hi64
    unfold next16 at e1
    rw [hml] at e1
    have e8:∀ (a b c d:UInt32),a+b+c+d=a+c+b+d:=fun a b c d=>by rw [UInt32.add_assoc a b c,UInt32.add_comm b c,←UInt32.add_assoc]
    rw [←e8] at e1
    exact Ze
   refine Z3m ?_
   refine Z1m ?_
   refine Z1d ?_
   refine Zn ?_
   refine Z1k ?_
   refine Z3a ?_
   have e1:=lay_next s hi16 hi64
   unfold next16 at e1
   rw [hml] at e1
   have e8:∀ (a b c d:UInt32),a+b+c+d=a+c+b+d:=fun a b c d=>by rw [UInt32.add_assoc a b c,UInt32.add_comm b c,←UInt32.add_assoc]
   rw [←e8] at e1
   exact Ze
  refine Z3m ?_
  refine Z1m ?_
  refine et_2 (i1:=4) (i2:=8) (by kernel_rfl) ?_ ?_
  ·
   refine Zd ?_
   refine Zw ?_
   refine Zn ?_
   refine Z1k ?_
   refine Z3a ?_
   have e1:=lay_next s hi16 hi64
   unfold next16 at e1
   rw [hml] at e1
   have e8:∀ (a b c d:UInt32),a+b+c+d=a+c+b+d:=fun a b c d=>by rw [UInt32.add_assoc a b c,UInt32.add_comm b c,←UInt32.add_assoc]
   rw [←e8] at e1
   exact Ze
  refine Zd ?_
  refine Z1d ?_
  refine Zn ?_
  refine Z1k ?_
  refine Z3a ?_
  have e1:=lay_next s hi16 hi64
  unfold next16 at e1
  rw [hml] at e1
  have e8:∀ (a b c d:UInt32),a+b+c+d=a+c+b+d:=fun a b c d=>by rw [UInt32.add_assoc a b c,UInt32.add_comm b c,←UInt32.add_assoc]
  rw [←e8] at e1
  exact Ze
 intro hb1 hp1
 obtain rfl:i=64:=by omega
 rw [List.take_of_length_le (show (layM s).length≤64 by rw [layM_len];exact Nat.le_refl _),fillA_64 (layM_len s)]
 refine R6 ?_
 refine Zo ?_
 refine rg_q (wn_none rfl) (op_aidx0 0 a1_146 rfl rfl rfl (by omega)) rfl rfl ?_
 refine Z4i ?_
 refine rg_q (wn_none rfl) (op_aidx0 1 a1_146 rfl rfl rfl (by omega)) rfl rfl ?_
 refine Z4i ?_
 refine rg_q (wn_none rfl) (op_aidx0 2 a1_146 rfl rfl rfl (by omega)) rfl rfl ?_
 refine Z4i ?_
 refine rg_q (wn_none rfl) (op_aidx0 3 a1_146 rfl rfl rfl (by omega)) rfl rfl ?_
 refine Z4i ?_
 refine rg_q (wn_none rfl) (op_aidx0 4 a1_146 rfl rfl rfl (by omega)) rfl rfl ?_
 refine Z4i ?_
 refine rg_q (wn_none rfl) (op_aidx0 5 a1_146 rfl rfl rfl (by omega)) rfl rfl ?_
 refine Z4i ?_
 refine rg_q (wn_none rfl) (op_aidx0 6 a1_146 rfl rfl rfl (by omega)) rfl rfl ?_
 refine Z4i ?_
 refine rg_q (wn_none rfl) (op_aidx0 7 a1_146 rfl rfl rfl (by omega)) rfl rfl ?_
 refine Z4i ?_
 refine R8 ?_
 refine Zu ?_
 refine R6 ?_
 refine cd_loop2 (α:=Nat) [(12,22),(100,162)] (fun x=>[(12,.int .u32 ((rnds (layM s) h.1 x).getD 0 0).toNat),(13,.int .u32 ((rnds (layM s) h.1 x).getD 1 0).toNat),(14,.int .u32 ((rnds (layM s) h.1 x).getD 2 0).toNat),(15,.int .u32 ((rnds (layM s) h.1 x).getD 3 0).toNat),(16,.int .u32 ((rnds (layM s) h.1 x).getD 4 0).toNat),(17,.int .u32 ((rnds (layM s) h.1 x).getD 5 0).toNat),(18,.int .u32 ((rnds (layM s) h.1 x).getD 6 0).toNat),(19,.int .u32 ((rnds (layM s) h.1 x).getD 7 0).toNat),(100,.int .i64 (x:Int))]) (fun x=>Blk bx4 (.cells (wC (layM s)).toArray 150 (0,0))::Blk bx3 (.cells (wC (List.replicate 8 0)).toArray 146 (0,0))::Blk bx2 (.cells (wC K64).toArray 150 (0,0))::Blk bx1 (.cells (w8C h).toArray 146 (0,0))::l) (fun x=>x≤64) (fun x=>64-x) 0 (Nat.zero_le _) ⟨rfl,rfl,rfl,rfl,rfl,rfl,rfl,rfl,rfl,trivial⟩ (fun _ s=>s) ?_
 rintro j hj f;(try dsimp only at hj ⊢)
 refine Z3 ?_ ?_
 ·intro hb4 hp4
  have hj64:j<64:=by omega
  obtain ⟨va,vb,vc,vd,ve,vf,vg,vh,hv⟩:=list_len8 (rnds_len (W:=layM s) h.2 j)
  rw [hv]
  refine R10 ?_
  refine cd_drawe (M:=[]) mx [2,4,7] ?_
  refine Z4x ?_
  refine Z4s ?_
  refine Z6h ?_
  refine e_q 6 rfl (wn_none rfl) (op_move (v:=.int _ _) rfl) ?_
  refine e_q 10 rfl (wn_none rfl) (op_move (v:=.int _ _) rfl) ?_
  refine e_q 11 rfl (wn_none rfl) (op_move (v:=.int _ _) rfl) ?_
  refine e_q 12 rfl (wn_none rfl) (op_and32 _ _ rfl rfl) ?_
  refine e_q 13 rfl (wn_none rfl) (op_move (v:=.int _ _) rfl) ?_
  refine e_q 14 rfl (wn_none rfl) (op_not32 _ rfl) ?_
  refine e_q 15 rfl (wn_none rfl) (op_move (v:=.int _ _) rfl) ?_
  refine e_q 16 rfl (wn_none rfl) (op_and32 _ _ rfl rfl) ?_
  refine e_q 17 rfl (wn_none rfl) (op_xor32 _ _ rfl rfl) ?_
  refine e_q 19 rfl (wn_none rfl) (op_move (v:=.int _ _) rfl) ?_
  refine e_q 20 rfl (wn_none rfl) (op_aidx0 _ a1_150 rfl rfl rfl (by omega)) ?_
  refine e_q 21 rfl (wn_none rfl) (op_ld 2 sc_145 rfl rfl (wC_gd (by rw [K64_len];omega))) ?_
  refine e_q 23 rfl (wn_none rfl) (op_move (v:=.int _ _) rfl) ?_
  refine e_q 24 rfl (wn_none rfl) (op_aidx0 _ a1_150 rfl rfl rfl (by omega)) ?_
  refine e_q 25 rfl (wn_none rfl) (op_ld 0 sc_145 rfl rfl (wC_gd (by rw [layM_len];omega))) ?_
  refine Z4y ?_
  refine ei_i rfl rfl (wn_none rfl) (os_call cb_112 rfl (fun w s=>right_calls (k:=6) _  s (by decide) (by decide))) rfl ?_;rintro _ _ ⟨rfl,rfl⟩;refine ⟨[],rfl,?_⟩
  refine Z1d ?_
  refine ei_i rfl rfl (wn_none rfl) (os_call cb_112 rfl (fun w s=>right_calls (k:=11) _  s (by decide) (by decide))) rfl ?_;rintro _ _ ⟨rfl,rfl⟩;refine ⟨[],rfl,?_⟩
  refine e_q 5 rfl (wn_none rfl) (op_xor32 _ _ rfl rfl) ?_
  refine Zc ?_
  refine ei_i rfl rfl (wn_none rfl) (os_call cb_112 rfl (fun w s=>right_calls (k:=25) _  s (by decide) (by decide))) rfl ?_;rintro _ _ ⟨rfl,rfl⟩;refine ⟨[],rfl,?_⟩
  refine e_q 8 rfl (wn_none rfl) (op_xor32 _ _ rfl rfl) ?_
  refine e_q 9 rfl (wn_none rfl) (op_add32 _ _ rfl rfl) ?_
  refine Z1l ?_
  refine e_q 22 rfl (wn_none rfl) (op_add32 _ _ rfl rfl) ?_
  refine e_q 26 rfl (wn_none rfl) (op_add32 _ _ rfl rfl) ?_
  refine e_q 27 rfl (wn_none rfl) (op_assign (v:=.int _ _) rfl) ?_
  refine Z4b ?_
  refine R2 ?_
  refine oi (os_call cb_112 rfl (fun w s=>right_calls (k:=2) _  s (by decide) (by decide))) ?_;rintro _ _ ⟨rfl,rfl⟩
  refine R1 ?_
  refine oi (os_call cb_112 rfl (fun w s=>right_calls (k:=13) _  s (by decide) (by decide))) ?_;rintro _ _ ⟨rfl,rfl⟩
  refine oq (op_xor32 _ _ rfl rfl) ?_
  refine R1 ?_
  refine oi (os_call cb_112 rfl (fun w s=>right_calls (k:=22) _  s (by decide) (by decide))) ?_;rintro _ _ ⟨rfl,rfl⟩
  refine oq (op_xor32 _ _ rfl rfl) ?_
  refine R2 ?_
  refine oq (op_and32 _ _ rfl rfl) ?_
  refine R2 ?_
  refine oq (op_and32 _ _ rfl rfl) ?_
  refine oq (op_xor32 _ _ rfl rfl) ?_
  refine R2 ?_
  refine oq (op_and32 _ _ rfl rfl) ?_
  refine oq (op_xor32 _ _ rfl rfl) ?_
  refine Z2k ?_
  refine R9 ?_
  refine Z2k ?_
  refine R5 ?_
  refine Z2k ?_
  refine R15 ?_
  have e1:rnds (layM s) h.1 (j+1)=rnd (K64.getD j 0) ((layM s).getD j 0) [va,vb,vc,vd,ve,vf,vg,vh]:=by rw [rnds,hv]
  have g0:vh+(rotr ve 6 ^^^ rotr ve 11 ^^^ rotr ve 25)+(ve &&& vf ^^^ ~~~ve &&& vg)+K64.getD j 0+(layM s).getD j 0+((rotr va 2 ^^^ rotr va 13 ^^^ rotr va 22)+(va &&& vb ^^^ va &&& vc ^^^ vb &&& vc))=(rnds (layM s) h.1 (j+1)).getD 0 0:=by rw [e1];rfl
  have g1:va=(rnds (layM s) h.1 (j+1)).getD 1 0:=by rw [e1];rfl
  have g2:vb=(rnds (layM s) h.1 (j+1)).getD 2 0:=by rw [e1];rfl
  have g3:vc=(rnds (layM s) h.1 (j+1)).getD 3 0:=by rw [e1];rfl
  have g4:vd+(vh+(rotr ve 6 ^^^ rotr ve 11 ^^^ rotr ve 25)+(ve &&& vf ^^^ ~~~ve &&& vg)+K64.getD j 0+(layM s).getD j 0)=(rnds (layM s) h.1 (j+1)).getD 4 0:=by rw [e1];rfl
  have g5:ve=(rnds (layM s) h.1 (j+1)).getD 5 0:=by rw [e1];rfl
  have g6:vf=(rnds (layM s) h.1 (j+1)).getD 6 0:=by rw [e1];rfl
  have g7:vg=(rnds (layM s) h.1 (j+1)).getD 7 0:=by rw [e1];rfl
  refine px_loop2 (j+1) (by omega) (by (try dsimp only);omega) ⟨congrArg (fun q:UInt32=>Value.int .u32 (q.toNat:Int)) g0,congrArg (fun q:UInt32=>Value.int .u32 (q.toNat:Int)) g1,congrArg (fun q:UInt32=>Value.int .u32 (q.toNat:Int)) g2,congrArg (fun q:UInt32=>Value.int .u32 (q.toNat:Int)) g3,congrArg (fun q:UInt32=>Value.int .u32 (q.toNat:Int)) g4,congrArg (fun q:UInt32=>Value.int .u32 (q.toNat:Int)) g5,congrArg (fun q:UInt32=>Value.int .u32 (q.toNat:Int)) g6,congrArg (fun q:UInt32=>Value.int .u32 (q.toNat:Int)) g7,congrArg (Value.int .i64) (by simp),trivial⟩ ?_ (fun _ s=>s)
  exact Z0
 intro hb4 hp4
 obtain rfl:j=64:=by omega
 generalize hV:rnds (layM s) h.1 64=V
 refine R6 ?_
 refine oq (op_aidx0 0 a1_146 rfl rfl rfl (by omega)) ?_
 refine Z4j ?_
 refine R1 ?_
 refine Z2k ?_
 refine oq (op_aidx0 1 a1_146 rfl rfl rfl (by omega)) ?_
 refine Z4j ?_
 refine R1 ?_
 refine Z2k ?_
 refine oq (op_aidx0 2 a1_146 rfl rfl rfl (by omega)) ?_
 refine Z4j ?_
 refine R1 ?_
 refine Z2k ?_
 refine oq (op_aidx0 3 a1_146 rfl rfl rfl (by omega)) ?_
 refine Z4j ?_
 refine R1 ?_
 refine Z2k ?_
 refine oq (op_aidx0 4 a1_146 rfl rfl rfl (by omega)) ?_
 refine Z4j ?_
 refine R1 ?_
 refine Z2k ?_
 refine oq (op_aidx0 5 a1_146 rfl rfl rfl (by omega)) ?_
 refine Z4j ?_
 refine R1 ?_
 refine Z2k ?_
 refine oq (op_aidx0 6 a1_146 rfl rfl rfl (by omega)) ?_
 refine Z4j ?_
 refine R1 ?_
 refine Z2k ?_
 refine oq (op_aidx0 7 a1_146 rfl rfl rfl (by omega)) ?_
 refine Z4j ?_
 refine R1 ?_
 refine Z2k ?_
 refine oq (op_builda (L:=wC [h.1.getD 0 0+V.getD 0 0,h.1.getD 1 0+V.getD 1 0,h.1.getD 2 0+V.getD 2 0,h.1.getD 3 0+V.getD 3 0,h.1.getD 4 0+V.getD 4 0,h.1.getD 5 0+V.getD 5 0,h.1.getD 6 0+V.getD 6 0,h.1.getD 7 0+V.getD 7 0]) (vs:=[(0,.int _ _),(1,.int _ _),(2,.int _ _),(3,.int _ _),(4,.int _ _),(5,.int _ _),(6,.int _ _),(7,.int _ _)]) ba_146 rfl (fill8_ok _ _ _ _ _ _ _ _)) ?_
 refine Z2 ?_
 refine oN (os_storew (wC _) ag_146 rfl rfl (by rw [wC_len];rfl) (wC_one _) (by simp [wC_len,w8C_len]) (Free.zero _)) ?_;rintro _ _ ⟨rfl,rfl⟩
 refine R3 ?_
 exact px_rv1 rfl (rv_cella 0 ag_146 rfl rfl (List.take_of_length_le (by simp [wC_len])) (by simp [wC_len])) (fun _ s=>(s.arr 4 [])) ⟨congrArg (fun q:List Value=>Value.agg q.toArray) (blk8_eq h s hV),rfl⟩
def full (k:List UInt8):List UInt8:=k++List.replicate (64-k.length) 0
theorem full_len {k:List UInt8} (h:k.length≤64):(full k).length=64:=by unfold full;simp;omega
def mixK (K:List UInt8) (x:UInt8) (i:Nat):List UInt8:=(List.range 64).map fun q=>if q<i then K.getD q 0 ^^^ x else K.getD q 0
theorem mixK_len (K:List UInt8) (x:UInt8) (i:Nat):(mixK K x i).length=64:=by simp [mixK]
theorem mixK_zero {K:List UInt8} (x:UInt8) (h:K.length=64):mixK K x 0=K:=by
  refine List.ext_getElem (by rw [mixK_len,h]) fun j h1 h2=>?_
  simp [mixK,List.getD_eq_getElem?_getD,h2]
theorem mixK_at (K:List UInt8) (x:UInt8) {i:Nat} (h:i<64):(bC (mixK K x i)).toArray[i]? = some (.int .u8 ((K.getD i 0).toNat:Int)):=by
  rw [bC_gd (by rw [mixK_len];exact h)]
  simp [mixK,List.getD_eq_getElem?_getD,h]
theorem mixK_set (K:List UInt8) (x:UInt8) {i:Nat} (h:i<64):(bC (mixK K x i)).toArray.setIfInBounds i (.int .u8 ((K.getD i 0 ^^^ x).toNat:Int))=(bC (mixK K x (i+1))).toArray:=by
  rw [bC_set]
  congr 2
  refine List.ext_getElem (by rw [List.length_set,mixK_len,mixK_len]) fun j h1 h2=>?_
  rw [List.getElem_set]
  by_cases e:i=j
  · subst e;simp [mixK]
  · rw [if_neg e]
    simp only [mixK,List.getElem_map,List.getElem_range]
    by_cases h3:j<i
    · rw [if_pos h3,if_pos (by omega)]
    · rw [if_neg h3,if_neg (by omega)]
def padK (k:List UInt8) (x:UInt8):List UInt8:=mixK (full k) x 64
theorem padK_len (k:List UInt8) (x:UInt8):(padK k x).length=64:=mixK_len _ _ _
theorem full_copy {k:List UInt8} (h:k.length≤64):k.take (min k.length 64)++(List.replicate 64 (0:UInt8)).drop (min k.length 64)=full k:=by
  rw [Nat.min_eq_left h,List.take_length,List.drop_replicate]
  rfl
def tagOf (r:Root):Tag:=⟨r.1.take 16,by rw [List.length_take,r.2];rfl⟩
theorem tagOf_take (r:Root):((rootC r).toArray.toList.drop 0).take 16=tagC (tagOf r):=by
  simp [rootC,tagC,tagOf,List.map_take]
def keyM (k:List UInt8):List UInt8:=if 64<k.length then (shaM k).1 else k
theorem keyM_len (k:List UInt8):(keyM k).length≤64:=by
  unfold keyM
  split
  · rw [(shaM k).2];omega
  · omega
def macM (k m:List UInt8):Tag:=tagOf (shaM (padK (keyM k) 92++(shaM (padK (keyM k) 54++m)).1))
def mixT (a b:Tag) (i:Nat):List UInt8:=(List.range 16).map fun q=>if q<i then a.1.getD q 0 ^^^ b.1.getD q 0 else a.1.getD q 0
theorem mixT_len (a b:Tag) (i:Nat):(mixT a b i).length=16:=by simp [mixT]
def xorT (a b:Tag):Tag:=⟨mixT a b 16,mixT_len a b 16⟩
theorem tag_ext {a b:Tag} (h:∀ q,q<16→a.1.getD q 0=b.1.getD q 0):a=b:=by
  apply Subtype.ext
  refine List.ext_getElem (by rw [a.2,b.2]) fun j h1 h2=>?_
  have:=h j (by rw [a.2] at h1;exact h1)
  simpa [List.getD_eq_getElem?_getD,h1,h2] using this
theorem xorT_get (a b:Tag) {q:Nat} (h:q<16):(xorT a b).1.getD q 0=a.1.getD q 0 ^^^ b.1.getD q 0:=by
  simp [xorT,mixT,List.getD_eq_getElem?_getD,h]
theorem tagz_get {q:Nat}:Tag.zero.1.getD q 0=0:=by
  simp only [Tag.zero,List.getD_eq_getElem?_getD,List.getElem?_replicate]
  split<;>rfl
theorem xorT_comm (a b:Tag):xorT a b=xorT b a:=tag_ext fun q h=>by rw [xorT_get _ _ h,xorT_get _ _ h,UInt8.xor_comm]
theorem xorT_assoc (a b c:Tag):xorT (xorT a b) c=xorT a (xorT b c):=tag_ext fun q h=>by rw [xorT_get _ _ h,xorT_get _ _ h,xorT_get _ _ h,xorT_get _ _ h,UInt8.xor_assoc]
theorem xorT_zero (a:Tag):xorT a Tag.zero=a:=tag_ext fun q h=>by rw [xorT_get _ _ h,tagz_get,UInt8.xor_zero]
theorem zero_xorT (a:Tag):xorT Tag.zero a=a:=by rw [xorT_comm,xorT_zero]
def joinM (l:List Tag):Tag:=l.foldl xorT Tag.zero
theorem foldl_xorT (l:List Tag) (a:Tag):l.foldl xorT a=xorT a (joinM l):=by
  induction l generalizing a with
  | nil=>exact (xorT_zero a).symm
  | cons x r ih=>unfold joinM;rw [List.foldl_cons,List.foldl_cons,ih,ih,zero_xorT,xorT_assoc]
theorem joinM_append (x y:List Tag):joinM (x++y)=xorT (joinM x) (joinM y):=by
  unfold joinM
  rw [List.foldl_append]
  exact foldl_xorT y _
theorem joinM_one (x:Tag):joinM [x]=x:=zero_xorT x
theorem joinM_succ (l:List Tag) {i:Nat} (h:i<l.length):joinM (l.take (i+1))=xorT (joinM (l.take i)) l[i]:=by
  rw [List.take_succ_eq_append_getElem h,joinM_append,joinM_one]
theorem mixT_zero (a b:Tag):bC (mixT a b 0)=tagC a:=by
  show bC _=bC a.1
  congr 1
  refine List.ext_getElem (by rw [mixT_len,a.2]) fun j h1 h2=>?_
  simp [mixT,List.getD_eq_getElem?_getD,h2]
theorem mixT_at (a b:Tag) {i:Nat} (h:i<16):(bC (mixT a b i)).toArray[i]? = some (.int .u8 ((a.1.getD i 0).toNat:Int)):=by
  rw [bC_gd (by rw [mixT_len];exact h)]
  simp [mixT,List.getD_eq_getElem?_getD,h]
theorem mixT_set (a b:Tag) {i:Nat} (h:i<16):(bC (mixT a b i)).toArray.setIfInBounds i (.int .u8 ((a.1.getD i 0 ^^^ b.1.getD i 0).toNat:Int))=(bC (mixT a b (i+1))).toArray:=by
  rw [bC_set]
  congr 2
  refine List.ext_getElem (by rw [List.length_set,mixT_len,mixT_len]) fun j h1 h2=>?_
  rw [List.getElem_set]
  by_cases e:i=j
  · subst e;simp [mixT]
  · rw [if_neg e]
    simp only [mixT,List.getElem_map,List.getElem_range]
    by_cases h3:j<i
    · rw [if_pos h3,if_pos (by omega)]
    · rw [if_neg h3,if_neg (by omega)]
def colT (l:List Tag) (i k:Nat):List UInt8:=(List.range 16).map fun q=>if q<i then (joinM l).1.getD q 0 else if q=i then (joinM (l.take k)).1.getD q 0 else 0
theorem colT_len (l:List Tag) (i k:Nat):(colT l i k).length=16:=by simp [colT]
theorem colT_next (l:List Tag) (i:Nat):colT l i l.length=colT l (i+1) 0:=by
  unfold colT
  apply List.map_congr_left
  intro q hq
  rw [List.take_length,List.take_zero]
  by_cases h1:q<i
  · rw [if_pos h1,if_pos (by omega)]
  · rw [if_neg h1]
    by_cases h2:q=i
    · rw [if_pos h2,if_pos (by omega)]
    · rw [if_neg h2,if_neg (by omega)]
      by_cases h3:q=i+1
      · rw [if_pos h3];exact tagz_get.symm
      · rw [if_neg h3]
theorem colT_zero (l:List Tag):bC (colT l 0 0)=tagC Tag.zero:=by
  show bC _=bC Tag.zero.1
  congr 1
theorem colT_all (l:List Tag):bC (colT l 16 0)=tagC (joinM l):=by
  show bC _=bC (joinM l).1
  congr 1
  refine List.ext_getElem (by rw [colT_len,(joinM l).2]) fun j h1 h2=>?_
  have hj:j<16:=by rw [colT_len] at h1;exact h1
  simp only [colT,List.getElem_map,List.getElem_range]
  rw [if_pos hj]
  simp [List.getD_eq_getElem?_getD,h2]
theorem colT_at (l:List Tag) {i:Nat} (k:Nat) (h:i<16):(bC (colT l i k)).toArray[i]? = some (.int .u8 (((joinM (l.take k)).1.getD i 0).toNat:Int)):=by
  rw [bC_gd (by rw [colT_len];exact h)]
  simp [colT,List.getD_eq_getElem?_getD,h]
theorem colT_set (l:List Tag) {i k:Nat} (h:i<16) (hk:k<l.length):(bC (colT l i k)).toArray.setIfInBounds i (.int .u8 (((joinM (l.take k)).1.getD i 0 ^^^ l[k].1.getD i 0).toNat:Int))=(bC (colT l i (k+1))).toArray:=by
  rw [bC_set]
  congr 2
  refine List.ext_getElem (by rw [List.length_set,colT_len,colT_len]) fun j h1 h2=>?_
  rw [List.getElem_set]
  by_cases e:i=j
  · subst e
    simp only [colT,List.getElem_map,List.getElem_range]
    simp only [if_true,Nat.lt_irrefl,if_false]
    rw [joinM_succ l hk,xorT_get _ _ h]
  · rw [if_neg e]
    simp only [colT,List.getElem_map,List.getElem_range]
    by_cases h3:j<i
    · rw [if_pos h3,if_pos h3]
    · rw [if_neg h3,if_neg h3,if_neg (Ne.symm e),if_neg (Ne.symm e)]
theorem padK_step (k:List UInt8) (c:UInt8) {i:Nat} (h:i<64):(padK k c).take (i+1)=(padK k c).take i++[(full k).getD i 0 ^^^ c]:=by
  have hl:i<(padK k c).length:=by rw [padK_len];exact h
  rw [List.take_succ_eq_append_getElem hl]
  congr 2
  simp [padK,mixK,h]
def tagP (r:Root) (i:Nat):List UInt8:=(List.range 16).map fun q=>if q<i then r.1.getD q 0 else 0
theorem tagP_len (r:Root) (i:Nat):(tagP r i).length=16:=by simp [tagP]
theorem tagP_zero (r:Root):bC (tagP r 0)=tagC Tag.zero:=by
  show bC _=bC Tag.zero.1
  congr 1
theorem tagP_set (r:Root) {i:Nat} (h:i<16):(bC (tagP r i)).toArray.setIfInBounds i (.int .u8 ((r.1.getD i 0).toNat:Int))=(bC (tagP r (i+1))).toArray:=by
  rw [bC_set]
  congr 2
  refine List.ext_getElem (by rw [List.length_set,tagP_len,tagP_len]) fun j h1 h2=>?_
  rw [List.getElem_set]
  by_cases e:i=j
  · subst e;simp [tagP]
  · rw [if_neg e]
    simp only [tagP,List.getElem_map,List.getElem_range]
    by_cases h3:j<i
    · rw [if_pos h3,if_pos (by omega)]
    · rw [if_neg h3,if_neg (by omega)]
theorem tagP_all (r:Root):bC (tagP r 16)=tagC (tagOf r):=by
  show bC _=bC (tagOf r).1
  congr 1
  refine List.ext_getElem (by rw [tagP_len,(tagOf r).2]) fun j h1 h2=>?_
  have hj:j<16:=by rw [tagP_len] at h1;exact h1
  have hr:j<r.1.length:=by rw [r.2];omega
  simp only [tagP,tagOf,List.getElem_map,List.getElem_range,List.getElem_take]
  rw [if_pos hj]
  simp [List.getD_eq_getElem?_getD,hr]
theorem ROf_calls {w0 w:World} {l:List HProp} (s:List UInt8) (hs:Sat w0 w (l)) (hs1:s.length≤1000000) :
  Calls Tryz.prog 24 #[.string (B s)] w (Ret w0 fun v l'=>v=.agg (rootC (shaM s)).toArray∧l'=l):=by
 have hz:(zpad (s.length % 64))=(119-s.length % 64) % 64:=rfl
 have htm:=textM_len s
 have hp8:(prm (Int.toNat 8)).length=8:=prm_len (by decide)
 have hp64:(prm (Int.toNat 64)).length=64:=prm_len (by decide)
 refine calls_enter Tryz.func24 rfl rfl rfl hs ?_
 refine R1 ?_
 refine Zp ?_;intro bx1
 refine R4 ?_
 refine Z3n ?_
 refine R5 ?_
 refine cd_loop2 (α:=Nat) [(3,3),(17,22)] (fun x=>[(3,.string (B (s++[128]++List.replicate x 0)))]) (fun _=>_) (fun x=>x≤(zpad (s.length % 64))) (fun x=>(zpad (s.length % 64))-x) 0 (Nat.zero_le _) ⟨congrArg (fun q=>Value.string (B q)) (by simp),trivial⟩ (fun _ s=>s) ?_
 rintro k hk f;(try dsimp only at hk ⊢)
 have hlk:(s++[128]++List.replicate k 0).length=s.length+1+k:=by simp;omega
 refine R3 ?_
 refine Z27 ?_
 refine oq (op_rem rfl rfl (by omega) (by omega)) ?_
 refine Z6 ?_ ?_
 ·intro hb1 hp1
  have hkz:k<(zpad (s.length % 64)):=by omega
  refine R5 ?_
  refine Z3n ?_
  refine R3 ?_
  have e1:s++[128]++List.replicate (k+1) 0=s++[128]++List.replicate k 0++[0]:=by rw [List.replicate_succ'];simp
  refine Z9g ?_
  exact Z0
 intro hb1 hp1
 obtain rfl:k=(zpad (s.length % 64)):=by omega
 refine R7 ?_
 refine Z27 ?_
 refine Z86 ?_
 refine oq (op_muln (C:=8) rfl rfl (by omega)) ?_
 refine R9 ?_
 refine cd_loop2 (α:=Nat) [(3,3),(5,5),(27,40)] (fun x=>[(3,.string (B (s++[128]++List.replicate (zpad (s.length % 64)) 0++be64 (s.length*8) x))),(5,.int .i64 (7-(x:Int)))]) (fun _=>_) (fun x=>x≤8) (fun x=>8-x) 0 (Nat.zero_le _) ⟨congrArg (fun q=>Value.string (B q)) (by simp [be64]),congrArg (Value.int .i64) (by simp),trivial⟩ (fun _ s=>s) ?_
 rintro i hi f;(try dsimp only at hi ⊢)
 have hl8:(s++[128]++List.replicate (zpad (s.length % 64)) 0++be64 (s.length*8) i).length=s.length+1+(zpad (s.length % 64))+i:=by simp [be64_len];omega
 refine Z1u ?_ ?_
 ·intro hb2 hp2
  have hi8:i<8:=by omega
  refine R8 ?_
  refine Z3v ?_
  refine oq (op_conv64m (56-8*i) Tryz.underlying25 (by rw [Tryz.underlying3];rfl) rfl (by omega) (by omega)) ?_
  refine oq (op_shr_nat (m:=56-8*i) rfl rfl (by show 56-8*i≤64;omega)) ?_
  refine oq (op_conv8 Tryz.underlying5 (by rw [Tryz.underlying41];rfl) rfl) ?_
  refine Z4w ?_;intro ao1
  refine Z2j ?_
  refine oq (op_sadd rfl rfl (by rw [hl8];simp;omega)) ?_
  refine R9 ?_
  have e1:s++[128]++List.replicate (zpad (s.length % 64)) 0++be64 (s.length*8) (i+1)=s++[128]++List.replicate (zpad (s.length % 64)) 0++be64 (s.length*8) i++[UInt8.ofNat (s.length*8 / 2 ^ (56-8*i))]:=by rw [be64_succ];simp only [List.append_assoc]
  refine px_loop2 (i+1) (by omega) (by (try dsimp only);omega) ⟨congrArg (fun q=>Value.string (B q)) e1.symm,congrArg (Value.int .i64) (by omega),trivial⟩ ?_ (fun _ s=>(s.del 0))
  exact Z0
 intro hb2 hp2
 obtain rfl:i=8:=by omega
 have htl:(textM s).length=s.length+1+(zpad (s.length % 64))+8:=by unfold textM;simp [be64_len];omega
 refine R6 ?_
 refine Z9d ?_;intro bx2
 refine R4 ?_
 refine oi (os_call cb_67 rfl (fun w s=>primes_calls (n:=8)  s (by decide) (by decide))) ?_;rintro _ _ ⟨po1,pc1,rfl,rfl⟩
 refine oq (op_len_slice Tryz.underlying147 rfl) ?_
 refine R4 ?_
 refine cd_loop2 (α:=Nat) [(7,8),(43,52)] (fun x=>[(43,.int .i64 (x:Int))]) (fun x=>Blk bx2 (.cells (wC (fillN 8 (H0.take x))).toArray 146 (0,0))::Row 41 encU64 (.slice po1 (prm (Int.toNat 8)).length pc1) (prm (Int.toNat 8))::Blk bx1 (.cells (rootC Root.zero).toArray 35 (0,0))::l) (fun x=>x≤8) (fun x=>8-x) 0 (Nat.zero_le _) ⟨rfl,trivial⟩ (fun _ s=>(((s.pull 2).pull 1).pull 2)) ?_
 rintro i hi f;(try dsimp only at hi ⊢)
 refine Z3 ?_ ?_
 ·intro hb3 hp3
  have hi8:i<8:=by omega
  have hroot:=root8_at (i:=i) (show i<(prm 8).length by rw [prm_len (by decide)];omega)
  refine R6 ?_
  refine oq (op_index _ sB_147 rfl rfl rfl (rds_row 1 rfl rfl) rfl (by omega)) ?_
  refine oq (op_ldw sc_41 (rds_row 1 rfl rfl) rfl (by omega) rfl) ?_
  refine R7 ?_
  refine oi (os_call cb_68 rfl (fun w s=>root_calls (power:=2) _  s )) ?_;rintro _ l ⟨rfl,rfl⟩
  refine oq (op_aidx0 i a1_146 rfl rfl rfl (by omega)) ?_
  refine oN (os_store (v:=.int _ _) sc_145 rfl rfl rfl (Nat.ble_eq_true_of_le (show i+1≤_ by rw [List.size_toArray,wC_len,fillN_len (by rw [List.length_take];show min i 8≤8;omega)];omega)) (Free.zero _) (fillN_st rfl hi8 hroot)) ?_;rintro _ _ ⟨rfl,rfl⟩
  refine R7 ?_
  refine Z9h ?_
  exact Z0
 intro hb3 hp3
 obtain rfl:i=8:=by omega
 rw [fill8]
 refine R6 ?_
 refine Z6t ?_;intro bx3
 refine R4 ?_
 refine oi (os_call cb_67 rfl (fun w s=>primes_calls (n:=64)  s (by decide) (by decide))) ?_;rintro _ _ ⟨po3,pc3,rfl,rfl⟩
 refine oq (op_len_slice Tryz.underlying147 rfl) ?_
 refine R4 ?_
 refine cd_loop2 (α:=Nat) [(10,11),(55,64)] (fun x=>[(55,.int .i64 (x:Int))]) (fun x=>Blk bx3 (.cells (wC (fillN 64 (K64.take x))).toArray 150 (0,0))::Row 41 encU64 (.slice po3 (prm (Int.toNat 64)).length pc3) (prm (Int.toNat 64))::Blk bx2 (.cells (wC H0).toArray 146 (0,0))::Blk bx1 (.cells (rootC Root.zero).toArray 35 (0,0))::l) (fun x=>x≤64) (fun x=>64-x) 0 (Nat.zero_le _) ⟨rfl,trivial⟩ (fun _ s=>(s.arr 5 [1,0,2,4])) ?_
 rintro i hi f;(try dsimp only at hi ⊢)
 refine Z3 ?_ ?_
 ·intro hb4 hp4
  have hi64:i<64:=by omega
  have hroot:=root64_at (i:=i) (show i<(prm 64).length by rw [prm_len (by decide)];omega)
  refine R6 ?_
  refine oq (op_index _ sB_147 rfl rfl rfl (rds_row 1 rfl rfl) rfl (by omega)) ?_
  refine oq (op_ldw sc_41 (rds_row 1 rfl rfl) rfl (by omega) rfl) ?_
  refine R7 ?_
  refine oi (os_call cb_68 rfl (fun w s=>root_calls (power:=3) _  s )) ?_;rintro _ l ⟨rfl,rfl⟩
  refine oq (op_aidx0 i a1_150 rfl rfl rfl (by omega)) ?_
  refine oN (os_store (v:=.int _ _) sc_145 rfl rfl rfl (Nat.ble_eq_true_of_le (show i+1≤_ by rw [List.size_toArray,wC_len,fillN_len (by rw [List.length_take,K64_len];omega)];omega)) (Free.zero _) (fillN_st K64_len hi64 hroot)) ?_;rintro _ _ ⟨rfl,rfl⟩
  refine R7 ?_
  refine Z9h ?_
  exact Z0
 intro hb4 hp4
 obtain rfl:i=64:=by omega
 rw [fill64]
 refine R11 ?_
 refine cd_loop2 (α:=Nat) [(12,12),(65,78)] (fun x=>[(12,.int .i64 ((64*x:Nat):Int))]) (fun x=>Blk bx2 (.cells (w8C (run8 x H8 (textM s))).toArray 146 (0,0))::Blk bx3 (.cells (wC K64).toArray 150 (0,0))::Blk bx1 (.cells (rootC Root.zero).toArray 35 (0,0))::l) (fun x=>64*x≤(textM s).length) (fun x=>(textM s).length-64*x) 0 (Nat.zero_le _) ⟨rfl,trivial⟩ (fun _ s=>(s.arr 4 [2,0,3])) ?_
 rintro i hi f;(try dsimp only at hi ⊢)
 refine R4 ?_
 refine Z27 ?_
 refine Z6 ?_ ?_
 ·intro hb5 hp5
  have h64:64*i+64≤(textM s).length:=by omega
  refine R4 ?_
  refine cd_drawt (M:=[]) mx [7] 8 (by kernel_rfl) rfl rfl ?_
  dsimp only [List.take_succ_cons,List.take_zero,List.drop_succ_cons,List.drop_zero]
  refine rg_q (wn_none rfl) (op_lda  0 ag_146 rfl rfl (w8C_take' _) (by simp [w8C_len])) rfl rfl ?_
  refine rg_q (wn_none rfl) (op_lda  1 ag_150 rfl rfl (show ((wC K64).toArray.toList.drop 0).take 64=wC K64 from List.take_of_length_le (by show (wC K64).length≤64;rw [wC_len,K64_len];exact Nat.le_refl _)) (by simp [wC_len,K64_len])) rfl rfl ?_
  refine R4 ?_
  refine rg_q (wn_none rfl) (op_sslice (64*i) (64*i+64) Tryz.underlying9 rfl rfl rfl rfl (by omega) (by omega) (by omega)) rfl rfl ?_
  refine rg_i (wn_none rfl) (os_call cb_69 rfl (fun w s=>block_calls _ _  s (by rw [List.length_drop,List.length_take];omega))) rfl rfl ?_;rintro _ l ⟨rfl,rfl⟩;refine ⟨[],rfl,?_⟩
  refine rg_tail0 ?_
  refine oN (os_storew (wC _) ag_146 rfl rfl (by rw [wC_len];exact (blk8 _ _).2) (wC_one _) (by simp [wC_len,w8C_len]) (Free.zero _)) ?_;rintro _ _ ⟨rfl,rfl⟩
  refine R8 ?_
  have e1:run8 (i+1) H8 (textM s)=blk8 (run8 i H8 (textM s)) (((textM s).take (64*i+64)).drop (64*i)):=by rw [run8_last,List.drop_take,Nat.add_sub_cancel_left]
  refine px_loop2 (i+1) (by omega) (by (try dsimp only);omega) ⟨congrArg (Value.int .i64) (by omega),trivial⟩ ?_ (fun _ s=>(by (try dsimp only);rw [e1];exact s))
  exact Z0
 intro hb5 hp5
 have hie:i=(textM s).length / 64:=by omega
 subst hie
 refine R6 ?_
 refine Zp ?_;intro bx4
 refine R8 ?_
 refine cd_loop2 (α:=Nat) [(14,14),(79,95)] (fun x=>[(79,.int .i64 (x:Int))]) (fun x=>Blk bx4 (.cells (rootC (outP (run8 ((textM s).length / 64) H8 (textM s)) x)).toArray 35 (0,0))::Blk bx2 (.cells (w8C (run8 ((textM s).length / 64) H8 (textM s))).toArray 146 (0,0))::Blk bx1 (.cells (rootC Root.zero).toArray 35 (0,0))::l) (fun x=>x≤32) (fun x=>32-x) 0 (Nat.zero_le _) ⟨rfl,trivial⟩ (fun _ s1=>by rw [outP_zero];exact (s1.del 2)) ?_
 rintro j hj f;(try dsimp only at hj ⊢)
 refine Z3 ?_ ?_
 ·intro hb6 hp6
  have hj32:j<32:=by omega
  refine R12 ?_
  refine oq (op_quonk (A:=j) (C:=4) rfl rfl (by decide) (by omega)) ?_
  refine oq (op_aidx0 (j / 4) a1_146 rfl rfl rfl (by omega)) ?_
  refine oq (op_ld 1 sc_145 rfl rfl (wC_gd (ws:=(run8 ((textM s).length / 64) H8 (textM s)).1) (by rw [(run8 ((textM s).length / 64) H8 (textM s)).2];omega))) ?_
  refine R1 ?_
  refine oq (op_remn (A:=j) (C:=4) rfl rfl (by decide)) ?_
  refine Z3v ?_
  refine R1 ?_
  refine oq (op_conv64m (24-8*(j % 4)) Tryz.underlying25 (by rw [Tryz.underlying3];rfl) rfl (by omega) (by omega)) ?_
  refine oq (op_shr32 (m:=24-8*(j % 4)) _ rfl rfl (by omega)) ?_
  refine Z6y ?_
  refine oq (op_aidx0 j a1_35 rfl rfl rfl (by omega)) ?_
  refine oN (os_store (v:=.int _ _) sc_5 rfl rfl rfl (Nat.ble_eq_true_of_le (show j+1≤_ by rw [List.size_toArray,rootC_len];omega)) (Free.zero _) (rootC_set _ _ _)) ?_;rintro _ _ ⟨rfl,rfl⟩
  refine R7 ?_
  refine px_loop2 (j+1) (by omega) (by (try dsimp only);omega) ⟨congrArg (Value.int .i64) (by simp),trivial⟩ ?_ (fun _ s=>(by (try dsimp only);rw [outP_succ _ hj32];exact s))
  exact Z0
 intro hb6 hp6
 obtain rfl:j=32:=by omega
 refine R7 ?_
 refine Z7 ?_
 refine Z18 ?_
 exact px_rv1 rfl (rv_cella 0 ag_35 rfl rfl (rootC_take' _) (by simp [rootC_len])) (fun _ s=>(((s.del 2).del 1).del 0)) ⟨by rw [shaM_text];rfl,rfl⟩
theorem text_calls {w0 w:World} {l:List HProp} (r:Root) (hs:Sat w0 w (l))  :
  Calls Tryz.prog 129 #[.agg (rootC r).toArray] w (Ret w0 fun v l'=>v=.string (B r.1)∧l'=l):=by
 refine calls_enter Tryz.func129 rfl rfl rfl hs ?_
 refine Z5 ?_;intro bx1
 refine R4 ?_
 refine oi (os_bslice (E:=encU8) [] (ys:=([]:List UInt8)) sB_97 zv_5 rfl rfl rfl rfl (by decide)) ?_;rintro _ _ ⟨ao1,rfl,rfl⟩
 refine oq (op_slicea_all a1_35 rfl) ?_
 refine oi (os_append (E:=encU8) rfl sB_97 zv_5 rfl rfl rfl (fun w s=>(rds_root 1 rfl) [] w s) (root_len _) (by simp) (by unfold maxLen;simp)) ?_;rintro _ _ ⟨ao2,ac2,rfl,rfl⟩
 refine Z2j ?_
 refine R4 ?_
 exact Z9i
theorem RefBytes_calls {w0 w:World} {l:List HProp} (lo:Option Addr) (lc:Nat) (xs:List Bool) (hs:Sat w0 w (l)) (hr:Rds w0 l encBool lo xs) (hx:xs.length≤1000) :
  Calls Tryz.prog 83 #[.slice lo xs.length lc] w (Ret w0 fun v l'=>v=.string (B (enc8 xs))∧l'=l):=by
 obtain ⟨Y,hYe⟩:∃ Y:List Bool,Y=[]++xs++[true]:=⟨_,rfl⟩
 have hY:Y.length=xs.length+1:=by rw [hYe];simp
 have hG:∀ i q,(putB (low (Y.take i)) q).length=q:=fun i q=>putB_length _ _
 refine calls_enter Tryz.func83 rfl rfl rfl hs ?_
 refine R5 ?_
 refine oi (os_bslice (E:=encBool) [] (ys:=[]) sB_42 zv_4 rfl rfl rfl rfl (by decide)) ?_;rintro _ _ ⟨ao1,rfl,rfl⟩
 refine R1 ?_
 refine oi (os_append (E:=encBool) rfl sB_42 zv_4 rfl rfl rfl (fun w s=>(hr.cons _) [] w s) rfl (by simp;omega) (by unfold maxLen;simp;omega)) ?_;rintro _ _ ⟨ao2,ac2,rfl,rfl⟩
 refine oi (os_bslice (E:=encBool) [_] (ys:=[_]) sB_42 zv_4 rfl rfl rfl rfl (by decide)) ?_;rintro _ _ ⟨ao3,rfl,rfl⟩
 refine Z2 ?_
 refine oi (os_append (E:=encBool) rfl sB_42 zv_4 rfl rfl rfl (fun w s=>(rds_row 1 rfl rfl) [] w s) rfl (by simp;omega) (by unfold maxLen;simp;omega)) ?_;rintro _ _ ⟨ao4,ac4,rfl,rfl⟩;rw [←hYe]
 refine R10 ?_
 refine Z4d ?_
 refine R4 ?_
 refine cd_loop (α:=Nat×Option Addr×Nat) (fun x=>[(3,.slice ao4 Y.length ac4),(4,.slice x.2.1 (putB (low (Y.take (x.1))) ((x.1+7) / 8)).length x.2.2),(14,.slice ao4 Y.length ac4),(15,.int .i64 Y.length),(16,.int .i64 x.1)]) (fun x=>Row 5 encU8 (.slice x.2.1 (putB (low (Y.take (x.1))) ((x.1+7) / 8)).length x.2.2) (putB (low (Y.take (x.1))) ((x.1+7) / 8))::Row 4 encBool (.slice ao4 Y.length ac4) Y::l) (fun x=>x.1≤Y.length) (fun x=>Y.length-x.1) (0,none,0) (Nat.zero_le _) ⟨rfl,rfl,rfl,rfl,rfl,trivial⟩ (fun _ s=>Sat.rowNil (s.del 1)) ?_
 rintro ⟨i,v1,v2⟩ hi f;(try dsimp only at hi ⊢)
 refine Z3 ?_ ?_
 ·intro hb1 hp1
  have hi1:i<Y.length:=by omega
  have hML:=low_take_lt Y i
  have hst:=low_step Y i hi1
  refine R6 ?_
  refine oq (op_index _ sB_42 rfl rfl rfl (rds_row 1 rfl rfl) rfl (by omega)) ?_
  refine oq (op_ldw sc_4 (rds_row 1 rfl rfl) rfl (by omega) rfl) ?_
  refine R7 ?_
  refine oq (op_remn (A:=i) (C:=8) rfl rfl (by decide)) ?_
  refine Z6 ?_ ?_
  ·intro hb2 hp2
   have hgr:=putB_grow (low (Y.take i)) i hML (by omega)
   refine R2 ?_
   refine oi (os_bslice (E:=encU8) [_] (ys:=[0]) sB_97 zv_5 rfl rfl rfl rfl (by decide)) ?_;rintro _ _ ⟨ao5,rfl,rfl⟩
   refine Z2 ?_
   refine oi (os_append (E:=encU8) rfl sB_97 zv_5 rfl rfl rfl (fun w s=>(rds_row 1 rfl rfl) [] w s) rfl (by rw [hG];simp only [List.length_cons,List.length_nil];omega) (by rw [hG];unfold maxLen;simp only [List.length_cons,List.length_nil];omega)) ?_;rintro _ _ ⟨ao6,ac6,rfl,rfl⟩;rw [hgr]
   refine R7 ?_
   refine Z4 ?_ ?_
   ·intro hb3 hp3
    rw [if_pos hb3] at hst
    have hpa:=put_add (low (Y.take i)) (i / 8+1) i (by omega) hML (by rw [hG];omega)
    rw [←hst] at hpa
    have hfin:putB (low (Y.take (i+1))) (i / 8+1)=putB (low (Y.take (i+1))) ((i+1+7) / 8):=by rw [show (i+1+7) / 8=i / 8+1 by omega]
    refine R10 ?_
    refine cd_loop (α:=Nat) (fun k=>[(3,.slice ao4 Y.length ac4),(4,.slice ao6 (putB (low (Y.take (i))) (i / 8+1)).length ac6),(5,.int .i64 i),(7,.int .i64 (2 ^ k:Nat)),(8,.int .i64 k),(14,.slice ao4 Y.length ac4),(15,.int .i64 Y.length),(16,.int .i64 i)]) (fun k=>Row 5 encU8 (.slice ao6 (putB (low (Y.take (i))) (i / 8+1)).length ac6) (putB (low (Y.take (i))) (i / 8+1))::Row 4 encBool (.slice ao4 Y.length ac4) Y::l) (fun k=>k≤i % 8) (fun k=>i % 8-k) 0 (Nat.zero_le _) ⟨rfl,rfl,rfl,rfl,rfl,rfl,rfl,rfl,trivial⟩ (fun _ s=>(s.del 1)) ?_
    intro k hk f;(try dsimp only at hk ⊢)
    refine R4 ?_
    refine oq (op_remn (A:=i) (C:=8) rfl rfl (by decide)) ?_
    refine Z6 ?_ ?_
    ·intro hb4 hp4
     have hk8:2 ^ k≤128:=Nat.pow_le_pow_right (show 0<2 by decide) (show k≤7 by omega)
     have hk0:(0:Int)≤((2 ^ k:Nat):Int):=Int.natCast_nonneg _
     refine R6 ?_
     refine Z3v ?_
     refine R9 ?_
     exact Zas
    intro hb4 hp4
    have e:k=i % 8:=by omega
    subst e
    refine R8 ?_
    refine Z4c ?_
    refine Z87 ?_
    refine R2 ?_
    refine Z4c ?_
    refine Z87 ?_
    refine Z88 ?_
    refine oq (op_ldw sc_5 (rds_row 0 rfl rfl) rfl (by rw [hG];omega) rfl) ?_
    refine R1 ?_
    refine oq (op_conv8 Tryz.underlying5 (by rw [Tryz.underlying3];rfl) rfl) ?_
    refine oq (op_add8 _ _ rfl rfl) ?_
    refine Z88 ?_
    refine oN (os_stsw  sc_5 rfl rfl rfl (by rw [hG];omega) rfl rfl) ?_;rintro _ _ ⟨rfl,rfl⟩
    refine R7 ?_
    have hlen:(putB (low (Y.take i)) (i / 8+1)).length=(putB (low (Y.take (i+1))) ((i+1+7) / 8)).length:=by rw [hG,hG];omega
    exact px_loop (i+1,ao6,ac6) (by dsimp only;omega) (by dsimp only;omega) ⟨rfl,congrArg (fun q=>Value.slice ao6 q ac6) hlen,rfl,rfl,congrArg (Value.int .i64) (by simp),trivial⟩ (fun _ s=>by rw [hpa,hlen,hfin] at s;exact s)
   intro hb3 hp3
   rw [if_neg (by simp [hb3])] at hst
   have hfin:putB (low (Y.take i)) (i / 8+1)=putB (low (Y.take (i+1))) ((i+1+7) / 8):=by rw [show (i+1+7) / 8=i / 8+1 by omega,hst]
   refine R7 ?_
   have hlen:(putB (low (Y.take i)) (i / 8+1)).length=(putB (low (Y.take (i+1))) ((i+1+7) / 8)).length:=by rw [hG,hG];omega
   exact px_loop (i+1,ao6,ac6) (by dsimp only;omega) (by dsimp only;omega) ⟨rfl,congrArg (fun q=>Value.slice ao6 q ac6) hlen,rfl,rfl,congrArg (Value.int .i64) (by simp),trivial⟩ (fun _ s=>by rw [hfin] at s;exact (s.del 1))
  intro hb2 hp2
  have hgr:(i+7) / 8=i / 8+1:=by omega
  rw [hgr]
  refine Z1u ?_ ?_
  ·intro hb5 hp5
   rw [if_pos hb5] at hst
   have hpa:=put_add (low (Y.take i)) (i / 8+1) i (by omega) hML (by rw [hG];omega)
   rw [←hst] at hpa
   have hfin:putB (low (Y.take (i+1))) (i / 8+1)=putB (low (Y.take (i+1))) ((i+1+7) / 8):=by rw [show (i+1+7) / 8=i / 8+1 by omega]
   refine R10 ?_
   refine cd_loop (α:=Nat) (fun k=>[(3,.slice ao4 Y.length ac4),(4,.slice v1 (putB (low (Y.take (i))) (i / 8+1)).length v2),(5,.int .i64 i),(7,.int .i64 (2 ^ k:Nat)),(8,.int .i64 k),(14,.slice ao4 Y.length ac4),(15,.int .i64 Y.length),(16,.int .i64 i)]) (fun k=>Row 5 encU8 (.slice v1 (putB (low (Y.take (i))) (i / 8+1)).length v2) (putB (low (Y.take (i))) (i / 8+1))::Row 4 encBool (.slice ao4 Y.length ac4) Y::l) (fun k=>k≤i % 8) (fun k=>i % 8-k) 0 (Nat.zero_le _) ⟨rfl,rfl,rfl,rfl,rfl,rfl,rfl,rfl,trivial⟩ (fun _ s=>s) ?_
   intro k hk f;(try dsimp only at hk ⊢)
   refine R4 ?_
   refine oq (op_remn (A:=i) (C:=8) rfl rfl (by decide)) ?_
   refine Z6 ?_ ?_
   ·intro hb6 hp6
    have hk8:2 ^ k≤128:=Nat.pow_le_pow_right (show 0<2 by decide) (show k≤7 by omega)
    have hk0:(0:Int)≤((2 ^ k:Nat):Int):=Int.natCast_nonneg _
    refine R6 ?_
    refine Z3v ?_
    refine R9 ?_
    exact Zas
   intro hb6 hp6
   have e:k=i % 8:=by omega
   subst e
   refine R8 ?_
   refine Z4c ?_
   refine Z87 ?_
   refine R2 ?_
   refine Z4c ?_
   refine Z87 ?_
   refine Z88 ?_
   refine oq (op_ldw sc_5 (rds_row 0 rfl rfl) rfl (by rw [hG];omega) rfl) ?_
   refine R1 ?_
   refine oq (op_conv8 Tryz.underlying5 (by rw [Tryz.underlying3];rfl) rfl) ?_
   refine oq (op_add8 _ _ rfl rfl) ?_
   refine Z88 ?_
   refine oN (os_stsw  sc_5 rfl rfl rfl (by rw [hG];omega) rfl rfl) ?_;rintro _ _ ⟨rfl,rfl⟩
   refine R7 ?_
   have hlen:(putB (low (Y.take i)) (i / 8+1)).length=(putB (low (Y.take (i+1))) ((i+1+7) / 8)).length:=by rw [hG,hG];omega
   exact px_loop (i+1,v1,v2) (by dsimp only;omega) (by dsimp only;omega) ⟨rfl,congrArg (fun q=>Value.slice v1 q v2) hlen,rfl,rfl,congrArg (Value.int .i64) (by simp),trivial⟩ (fun _ s=>by rw [hpa,hlen,hfin] at s;exact s)
  intro hb5 hp5
  rw [if_neg (by simp [hb5])] at hst
  have hfin:putB (low (Y.take i)) (i / 8+1)=putB (low (Y.take (i+1))) ((i+1+7) / 8):=by rw [show (i+1+7) / 8=i / 8+1 by omega,hst]
  refine R7 ?_
  have hlen:(putB (low (Y.take i)) (i / 8+1)).length=(putB (low (Y.take (i+1))) ((i+1+7) / 8)).length:=by rw [hG,hG];omega
  exact px_loop (i+1,v1,v2) (by dsimp only;omega) (by dsimp only;omega) ⟨rfl,congrArg (fun q=>Value.slice v1 q v2) hlen,rfl,rfl,congrArg (Value.int .i64) (by simp),trivial⟩ (fun _ s=>by rw [hfin] at s;exact s)
 intro hb1 hp1
 have e:i=Y.length:=by omega
 subst e
 rw [List.take_length]
 refine R7 ?_
 refine Z2j ?_
 refine R4 ?_
 exact px_ret1 rfl (v:=.string _) rfl (fun _ s=>((s.del 1).del 0)) ⟨congrArg Value.string (congrArg B (by rw [hY,hYe];unfold enc8 num;rw [List.nil_append,low_snoc,show (xs.length+1+7) / 8=xs.length / 8+1 by omega];simp)),rfl⟩
theorem wtext_calls {w0 w:World} {l:List HProp} (ao:Option Addr) (c:Nat) (bs:List UInt8) (hs:Sat w0 w (l)) (hr:Rds w0 l encU8 ao bs) :
  Calls Tryz.prog 38 #[.slice ao bs.length c] w (Ret w0 fun v l'=>v=.string (B bs)∧l'=l):=by
 refine calls_enter Tryz.func38 rfl rfl rfl hs ?_
 refine R6 ?_
 refine oq (op_b2s sB_97 Tryz.underlying5 Tryz.underlying9 rfl hr rfl) ?_
 refine R4 ?_
 exact px_ret1 rfl (v:=.string _) rfl (fun _ s=>s) ⟨rfl,rfl⟩
theorem WRPlain_calls {w0 w:World} {l:List HProp} (k sl:Int) (tg:Root) (mb:Int) (bd:Nat) (bo:Option Addr) (bc:Nat) (bits:List Bool) (tag:Tag) (hs:Sat w0 w (l)) (hr:Rds w0 l encBool bo bits) (hxl:bits.length≤1000) (hbd:bd<18446744073709551616) (hg9:goodW k sl mb bd bits=true) :
  Calls Tryz.prog 37 #[.agg (msgC ⟨k,sl,tg,mb,bd,⟨bo,bits.length,bc⟩,tag⟩).toArray] w (Ret w0 fun v l'=>v=.string (B (plainW k sl tg mb bd bits))∧l'=l):=by
 have hu0:=u64N_lt k
 have hu1:=u64N_lt sl
 have hu2:=u64N_lt mb
 obtain ⟨hk1,hk2⟩:=goodW_k hg9
 have hby:=byte1 hk1 hk2
 have hg:=goodW_iff.1 hg9
 have hel:=enc8_length bits
 have htl:=root_len tg
 refine calls_enter Tryz.func37 rfl rfl rfl hs ?_
 refine Z5 ?_;intro bx1
 refine R4 ?_
 refine cd_drawe (M:=[]) mx [3,7,9,12,13] ?_
 refine e_q 0 rfl (wn_none rfl) (op_field fld_46_0 rfl) ?_
 refine e_q 1 rfl (wn_none rfl) (op_ld 0 sc_3 rfl rfl (show (msgC _).toArray[0]? = some (.int .i64 k) from msgC_a0 _)) ?_
 refine e_q 2 rfl (wn_none rfl) (op_conv64i Tryz.underlying41 (by rw [Tryz.underlying3];rfl) rfl) ?_
 refine e_q 4 rfl (wn_none rfl) (op_field fld_46_1 rfl) ?_
 refine e_q 5 rfl (wn_none rfl) (op_ld 0 sc_3 rfl rfl (show (msgC _).toArray[1]? = some (.int .i64 sl) from msgC_a1 _)) ?_
 refine e_q 6 rfl (wn_none rfl) (op_conv64i Tryz.underlying41 (by rw [Tryz.underlying3];rfl) rfl) ?_
 refine e_q 10 rfl (wn_none rfl) (op_field fld_46_2 rfl) ?_
 refine e_q 11 rfl (wn_none rfl) (op_slicea_all a1_35 rfl) ?_
 refine et_2 (i1:=3) (i2:=9) (by kernel_rfl) ?_ ?_
 ·
  refine ei_i rfl rfl (wn_none rfl) (os_call cb_34 rfl (fun w s=>RPut_calls (wd:=1) _ _  s (show clamp8 1=1 from rfl) (by omega))) rfl ?_;rintro _ _ ⟨rfl,rfl⟩;refine ⟨[],rfl,?_⟩
  refine et_2 (i1:=7) (i2:=9) (by kernel_rfl) ?_ ?_
  ·
   refine ei_i rfl rfl (wn_none rfl) (os_call cb_34 rfl (fun w s=>RPut_calls (wd:=4) _ _  s (show clamp8 4=4 from rfl) (by omega))) rfl ?_;rintro _ _ ⟨rfl,rfl⟩;refine ⟨[],rfl,?_⟩
   refine Z9j ?_
   refine Z15 ?_
   refine Z70 ?_;intro ao1
   refine Zj ?_
   refine Z9k ?_;intro ao2 ac2
   refine Z1a ?_
   refine Z71 ?_
   refine Za5 ?_
   refine Z4b ?_
   refine R3 ?_
   refine Z4e ?_
   refine Z6 ?_ ?_
   ·intro hb1 hp1
    obtain rfl:k=3:=by omega
    refine R3 ?_
    refine Z7z ?_
    refine Z9l ?_
    refine oq (op_sadd rfl rfl (by simp [putB_length,htl];omega)) ?_
    refine R5 ?_
    exact Z40
   intro hb1 hp1
   have hk3:k=1∨k=2:=by omega
   refine R5 ?_
   refine Z7y ?_
   refine Z3j ?_
   refine Z9m ?_
   refine Z5x ?_
   refine R6 ?_
   refine Z4e ?_
   refine Z6 ?_ ?_
   ·intro hb2 hp2
    obtain rfl:k=1:=by omega
    refine R3 ?_
    refine Z9n ?_
    refine Z9o ?_
    refine Z5x ?_
    refine R9 ?_
    exact Z40
   intro hb2 hp2
   obtain rfl:k=2:=by omega
   refine R8 ?_
   exact Z40
  refine Z70 ?_;intro ao3
  refine Zc ?_
  refine Zat ?_
  refine Z9j ?_
  refine Zj ?_
  refine Z9k ?_;intro ao4 ac4
  refine Z1a ?_
  refine Z71 ?_
  refine Za5 ?_
  refine Z4b ?_
  refine R3 ?_
  refine Z4e ?_
  refine Z6 ?_ ?_
  ·intro hb3 hp3
   obtain rfl:k=3:=by omega
   refine R3 ?_
   refine Z7z ?_
   refine Z9l ?_
   refine oq (op_sadd rfl rfl (by simp [putB_length,htl];omega)) ?_
   refine R5 ?_
   exact Z40
  intro hb3 hp3
  have hk3:k=1∨k=2:=by omega
  refine R5 ?_
  refine Z7y ?_
  refine Z3j ?_
  refine Z9m ?_
  refine Z5x ?_
  refine R6 ?_
  refine Z4e ?_
  refine Z6 ?_ ?_
  ·intro hb4 hp4
   obtain rfl:k=1:=by omega
   refine R3 ?_
   refine Z9n ?_
   refine Z9o ?_
   refine Z5x ?_
   refine R9 ?_
   exact Z40
  intro hb4 hp4
  obtain rfl:k=2:=by omega
  refine R8 ?_
  exact Z40
 refine Z70 ?_;intro ao5
 refine Z3t ?_
 refine ei_i rfl rfl (wn_none rfl) (os_call cb_34 rfl (fun w s=>RPut_calls (wd:=1) _ _  s (show clamp8 1=1 from rfl) (by omega))) rfl ?_;rintro _ _ ⟨rfl,rfl⟩;refine ⟨[_],rfl,?_⟩
 refine Zc ?_
 refine Zat ?_
 refine Z9j ?_
 refine Zj ?_
 refine Z9k ?_;intro ao6 ac6
 refine Z1a ?_
 refine Z71 ?_
 refine Za5 ?_
 refine Z4b ?_
 refine R3 ?_
 refine Z4e ?_
 refine Z6 ?_ ?_
 ·intro hb5 hp5
  obtain rfl:k=3:=by omega
  refine R3 ?_
  refine Z7z ?_
  refine Z9l ?_
  refine oq (op_sadd rfl rfl (by simp [putB_length,htl];omega)) ?_
  refine R5 ?_
  exact Z40
 intro hb5 hp5
 have hk3:k=1∨k=2:=by omega
 refine R5 ?_
 refine Z7y ?_
 refine Z3j ?_
 refine Z9m ?_
 refine Z5x ?_
 refine R6 ?_
 refine Z4e ?_
 refine Z6 ?_ ?_
 ·intro hb6 hp6
  obtain rfl:k=1:=by omega
  refine R3 ?_
  refine Z9n ?_
  refine Z9o ?_
  refine Z5x ?_
  refine R9 ?_
  exact Z40
 intro hb6 hp6
 obtain rfl:k=2:=by omega
 refine R8 ?_
 exact Z40
theorem WRBytes_calls {w0 w:World} {l:List HProp} (k sl:Int) (tg:Root) (mb:Int) (bd:Nat) (bo:Option Addr) (bc:Nat) (bits:List Bool) (tag:Tag) (hs:Sat w0 w (l)) (hr:Rds w0 l encBool bo bits) (hxl:bits.length≤1000) (hbd:bd<18446744073709551616) (hg9:goodW k sl mb bd bits=true) :
  Calls Tryz.prog 11 #[.agg (msgC ⟨k,sl,tg,mb,bd,⟨bo,bits.length,bc⟩,tag⟩).toArray] w (Ret w0 fun v l'=>v=.string (B (plainW k sl tg mb bd bits++tag.1))∧l'=l):=by
 have hpl:=plainW_len k sl tg mb bd bits
 have hbl:=bodyW_le k mb bd bits
 have htl:=tag_len tag
 refine calls_enter Tryz.func11 rfl rfl rfl hs ?_
 refine Z5 ?_;intro bx1
 refine R4 ?_
 refine cd_drawe (M:=[]) mx [1,2,5,6] ?_
 refine e_q 0 rfl (wn_none rfl) (op_lda (L:=msgC _) 0 ag_46 rfl rfl (msgC_ta _) (by simp [msgC_len])) ?_
 refine e_q 3 rfl (wn_none rfl) (op_field fld_46_6 rfl) ?_
 refine e_q 4 rfl (wn_none rfl) (op_slicea_all a1_44 rfl) ?_
 refine et_2 (i1:=1) (i2:=2) (by kernel_rfl) ?_ ?_
 ·
  refine ei_i rfl rfl (wn_none rfl) (os_call cb_37 rfl (fun w s=>WRPlain_calls _ _ _ _ _ _ _ _ _  s (hr.cons _) (by omega) (by omega) (by assumption))) rfl ?_;rintro _ _ ⟨rfl,rfl⟩;refine ⟨[],rfl,?_⟩
  refine Z4y ?_
  refine Z70 ?_;intro ao1
  refine Z2e ?_
  refine Zau ?_;intro ao2 ac2
  refine Zs ?_
  refine Z71 ?_
  refine e_q 7 rfl (wn_none rfl) (op_sadd rfl rfl (by simp [htl];omega)) ?_
  refine e_q 8 rfl (wn_none rfl) (op_assign (v:=.string _) rfl) ?_
  refine Z9 ?_
  exact Z9i
 refine Z70 ?_;intro ao3
 refine Z39 ?_
 refine ei_i rfl rfl (wn_none rfl) (os_call cb_37 rfl (fun w s=>WRPlain_calls _ _ _ _ _ _ _ _ _  s ((hr.cons _).cons _) (by omega) (by omega) (by assumption))) rfl ?_;rintro _ _ ⟨rfl,rfl⟩;refine ⟨[_],rfl,?_⟩
 refine Z2e ?_
 refine Zau ?_;intro ao4 ac4
 refine Zs ?_
 refine Z71 ?_
 refine e_q 7 rfl (wn_none rfl) (op_sadd rfl rfl (by simp [htl];omega)) ?_
 refine e_q 8 rfl (wn_none rfl) (op_assign (v:=.string _) rfl) ?_
 refine Z9 ?_
 exact Z9i
theorem WRoot_calls {w0 w:World} {l:List HProp} (k sl:Int) (tg:Root) (mb:Int) (bd:Nat) (bo:Option Addr) (bc:Nat) (bits:List Bool) (tag:Tag) (hs:Sat w0 w (l)) (hr:Rds w0 l encBool bo bits) (hxl:bits.length≤1000) (hbd:bd<18446744073709551616) :
  Calls Tryz.prog 134 #[.agg (msgC ⟨k,sl,tg,mb,bd,⟨bo,bits.length,bc⟩,tag⟩).toArray] w (Ret w0 fun v l'=>v=.agg (rootC (shaM (plainW k sl tg mb bd bits++tag.1))).toArray∧l'=l):=by
 have hpl:=plainW_len k sl tg mb bd bits
 have hbl:=bodyW_le k mb bd bits
 have htl:=tag_len tag
 refine calls_enter Tryz.func134 rfl rfl rfl hs ?_
 refine Z5 ?_;intro bx1
 refine Zp ?_;intro bx2
 refine R3 ?_
 refine cd_drawt (M:=[]) mx [1,5,6] 7 (by kernel_rfl) rfl rfl ?_
 dsimp only [List.take_succ_cons,List.take_zero,List.drop_succ_cons,List.drop_zero]
 refine R1 ?_
 refine rg_i (wn_none rfl) (os_call cb_167 rfl (fun w s=>Plain_calls _ _ _ _ _ _ _ _ _  s ((hr.cons _).cons _) (by omega) (by omega))) rfl rfl ?_;rintro _ _ ⟨rfl,rfl⟩;refine ⟨[],rfl,?_⟩
 refine R1 ?_
 refine Z6s ?_
 refine rg_q (wn_none rfl) (op_b2s sB_97 Tryz.underlying5 Tryz.underlying9 rfl (rds_fld 1 37 16 rfl (msgC_af37 _)) (tag_len _)) rfl rfl ?_
 refine rg_i (wn_none rfl) (os_bslice (E:=encStr) [_,_] (ys:=[_,_]) sB_37 zv_9 rfl rfl rfl rfl (by decide)) rfl rfl ?_;rintro _ _ ⟨ao1,rfl,rfl⟩;refine ⟨[_],rfl,?_⟩
 refine rg_i (wn_none rfl) (os_call cb_141 rfl (fun w s=>Of_calls _ _ _  s (rds_row 0 rfl rfl) (by rw [List.flatten_cons,List.flatten_cons,List.flatten_nil,List.append_nil,List.length_append,tag_len];omega) (by show 2≤1000000;omega))) rfl rfl ?_;rintro _ _ ⟨rfl,rfl⟩;refine ⟨[_],rfl,?_⟩
 refine rg_tail1 ?_
 refine Z2 ?_
 refine Z18 ?_
 exact Zav
theorem WRRoot_calls {w0 w:World} {l:List HProp} (k sl:Int) (tg:Root) (mb:Int) (bd:Nat) (bo:Option Addr) (bc:Nat) (bits:List Bool) (tag:Tag) (hs:Sat w0 w (l)) (hr:Rds w0 l encBool bo bits) (hxl:bits.length≤1000) (hbd:bd<18446744073709551616) (hg9:goodW k sl mb bd bits=true) :
  Calls Tryz.prog 12 #[.agg (msgC ⟨k,sl,tg,mb,bd,⟨bo,bits.length,bc⟩,tag⟩).toArray] w (Ret w0 fun v l'=>v=.agg (rootC (shaM (plainW k sl tg mb bd bits++tag.1))).toArray∧l'=l):=by
 have hpl:=plainW_len k sl tg mb bd bits
 have hbl:=bodyW_le k mb bd bits
 have htl:=tag_len tag
 refine calls_enter Tryz.func12 rfl rfl rfl hs ?_
 refine Z5 ?_;intro bx1
 refine Zp ?_;intro bx2
 refine R4 ?_
 refine oi (os_call cb_11 rfl (fun w s=>WRBytes_calls _ _ _ _ _ _ _ _ _  s ((hr.cons _).cons _) (by omega) (by omega) (by assumption))) ?_;rintro _ _ ⟨rfl,rfl⟩
 refine oi (os_call cb_24 rfl (fun w s=>ROf_calls _  s (by rw [List.length_append];omega))) ?_;rintro _ _ ⟨rfl,rfl⟩
 refine Z18 ?_
 exact Z9p
def chk (m:MsgP):MsgP×Bool:=if goodW m.kind m.slot m.member m.body m.bits=true then (m,true) else (MsgP.zero,false)
def kindW (s:List UInt8):Int:=(leNat (s.take 1):Nat)
def slotW (s:List UInt8):Int:=(leNat ((s.drop 1).take 4):Nat)
def tgtW (s:List UInt8):Root:=Root.zero.over ((s.drop 5).take 32)
def tagW (s:List UInt8) (o:Nat):Tag:=Tag.zero.over ((s.drop o).take 16)
def memW (s:List UInt8):Int:=(leNat ((s.drop 37).take 2):Nat)
def bdW (s:List UInt8):Nat:=leNat ((s.drop 39).take 8)
def midW (s:List UInt8):List UInt8:=(s.drop 37).take (s.length-53)
def m1W (s:List UInt8):MsgP:=⟨kindW s,slotW s,tgtW s,memW s,bdW s,[],tagW s 47⟩
def m2W (s:List UInt8):MsgP:=⟨kindW s,slotW s,tgtW s,memW s,0,[],tagW s 39⟩
def m3W (s:List UInt8):MsgP:=⟨kindW s,slotW s,tgtW s,0,0,getD' (midW s) 16,tagW s (s.length-16)⟩
def decW (s:List UInt8):MsgP×Bool :=
  if kindW s=1 then (if s.length=63 then chk (m1W s) else (MsgP.zero,false))
  else if kindW s=2 then (if s.length=55 then chk (m2W s) else (MsgP.zero,false))
  else if kindW s=3 then (if 53≤s.length∧(getB (midW s) 16).isSome=true then chk (m3W s) else (MsgP.zero,false))
  else (MsgP.zero,false)
def stR (s:List UInt8) (o:Nat):RdS:=if o≤s.length then ⟨s.drop o,false⟩ else ⟨[],true⟩
theorem stR_zero (s:List UInt8):stR s 0=⟨s,false⟩:=by simp [stR]
theorem stR_ok {s:List UInt8} {o:Nat} (h:o≤s.length):stR s o=⟨s.drop o,false⟩:=if_pos h
theorem stR_bad {s:List UInt8} {o:Nat} (h:s.length<o):stR s o=⟨[],true⟩:=if_neg (by omega)
theorem rdB_st (s:List UInt8) (o k:Nat):(rdBytes (stR s o) (k:Int)).2=stR s (o+k):=by
  by_cases h:o+k≤s.length
  · rw [stR_ok (show o≤s.length by omega),rdBytes_ok rfl (by omega) (by simp only [List.length_drop];omega),stR_ok h]
    simp [List.drop_drop]
  · rw [stR_bad (show s.length<o+k by omega)]
    by_cases h2:o≤s.length
    · rw [stR_ok h2,rdBytes_bad (.inr (.inr (by simp only [List.length_drop];omega)))]
    · rw [stR_bad (by omega),rdBytes_bad (.inl rfl)]
theorem rdB_val {s:List UInt8} {o k:Nat} (h:o+k≤s.length):(rdBytes (stR s o) (k:Int)).1=(s.drop o).take k:=by
  rw [stR_ok (show o≤s.length by omega),rdBytes_ok rfl (by omega) (by simp only [List.length_drop];omega)]
  simp
theorem rdU_st (s:List UInt8) (o k:Nat) (hk:k≤8):(rdUint (stR s o) (k:Int)).2=stR s (o+k):=by
  unfold rdUint
  rw [if_neg (by omega)]
  exact rdB_st s o k
theorem rdU_val {s:List UInt8} {o k:Nat} (hk:k≤8) (h:o+k≤s.length):(rdUint (stR s o) (k:Int)).1=leNat ((s.drop o).take k):=by
  unfold rdUint
  rw [if_neg (by omega)]
  exact congrArg leNat (rdB_val h)
theorem kind_val (s:List UInt8):((rdUint (stR s 0) 1).1:Int)=kindW s:=by
  unfold kindW
  by_cases h:1≤s.length
  · rw [show (1:Int)=((1:Nat):Int) from rfl,rdU_val (k:=1) (by decide) (by omega),List.drop_zero]
  · have:s=[]:=List.eq_nil_of_length_eq_zero (by omega)
    subst this
    rfl
theorem endR_st (s:List UInt8) (o:Nat):endR (stR s o)=decide (s.length=o):=by
  unfold endR stR
  by_cases h:o≤s.length
  · rw [if_pos h]
    by_cases h2:s.length=o
    · subst h2;simp
    · have:¬ s.drop o=[]:=fun e=>by have:=congrArg List.length e;simp at this;omega
      simp [this,h2]
  · rw [if_neg h]
    have:¬ s.length=o:=by omega
    simp [this]
theorem okW_st {s:List UInt8} {o:Nat} {m m':MsgP} (h:s.length=o→m=m'):okW (stR s o) m=if s.length=o then chk m' else (MsgP.zero,false):=by
  unfold okW chk
  rw [endR_st]
  by_cases h2:s.length=o
  · rw [if_pos h2,←h h2]
    simp [h2]
  · rw [if_neg h2,if_neg (by simp [h2])]
theorem getB_nil (most:Int):getB [] most=none:=getB_none (.inl rfl)
theorem decP_eq (s:List UInt8):decP s=decW s:=by
  unfold decP decW
  rw [←stR_zero s]
  have u1:=rdU_st s 0 1 (by decide)
  have u2:=rdU_st s 1 4 (by decide)
  have u3:=rdB_st s 5 32
  simp only [Nat.zero_add] at u1
  have k1:=kind_val s
  rw [show ((1:Nat):Int)=1 from rfl] at u1
  rw [show ((4:Nat):Int)=4 from rfl] at u2
  rw [show ((32:Nat):Int)=32 from rfl] at u3
  dsimp only
  rw [k1,u1,u2,u3]
  by_cases h1:kindW s=1
  · rw [if_pos h1,if_pos h1]
    have v1:=rdU_st s 37 2 (by decide)
    have v2:=rdU_st s 39 8 (by decide)
    have v3:=rdB_st s 47 16
    rw [show ((2:Nat):Int)=2 from rfl] at v1
    rw [show ((8:Nat):Int)=8 from rfl] at v2
    rw [show ((16:Nat):Int)=16 from rfl] at v3
    rw [v1,v2,v3]
    refine okW_st fun hn=>?_
    unfold m1W slotW tgtW memW bdW tagW
    have w1:(rdUint (stR s 1) 4).1=_:=rdU_val (k:=4) (by decide) (by omega)
    have w2:(rdBytes (stR s 5) 32).1=_:=rdB_val (k:=32) (by omega)
    have w3:(rdUint (stR s 37) 2).1=_:=rdU_val (k:=2) (by decide) (by omega)
    have w4:(rdUint (stR s 39) 8).1=_:=rdU_val (k:=8) (by decide) (by omega)
    have w5:(rdBytes (stR s 47) 16).1=_:=rdB_val (k:=16) (by omega)
    rw [w1,w2,w3,w4,w5]
  · rw [if_neg h1,if_neg h1]
    by_cases h2:kindW s=2
    · rw [if_pos h2,if_pos h2]
      have v1:=rdU_st s 37 2 (by decide)
      have v3:=rdB_st s 39 16
      rw [show ((2:Nat):Int)=2 from rfl] at v1
      rw [show ((16:Nat):Int)=16 from rfl] at v3
      rw [v1,v3]
      refine okW_st fun hn=>?_
      unfold m2W slotW tgtW memW tagW
      have w1:(rdUint (stR s 1) 4).1=_:=rdU_val (k:=4) (by decide) (by omega)
      have w2:(rdBytes (stR s 5) 32).1=_:=rdB_val (k:=32) (by omega)
      have w3:(rdUint (stR s 37) 2).1=_:=rdU_val (k:=2) (by decide) (by omega)
      have w5:(rdBytes (stR s 39) 16).1=_:=rdB_val (k:=16) (by omega)
      rw [w1,w2,w3,w5]
    · rw [if_neg h2,if_neg h2]
      by_cases h3:kindW s=3
      · rw [if_pos h3,if_pos h3]
        by_cases hn:53≤s.length
        · have e1:((stR s 37).rest.length:Int)-16=((s.length-53:Nat):Int):=by
            rw [stR_ok (show 37≤s.length by omega)]
            simp only [List.length_drop]
            omega
          rw [e1]
          have w0:(rdBytes (stR s 37) ((s.length-53:Nat):Int)).1=midW s:=rdB_val (by omega)
          have v0:=rdB_st s 37 (s.length-53)
          rw [show 37+(s.length-53)=s.length-16 by omega] at v0
          rw [w0,v0]
          by_cases hg:(getB (midW s) 16).isSome=true
          · rw [if_pos hg,if_pos ⟨hn,hg⟩]
            have v3:=rdB_st s (s.length-16) 16
            rw [show ((16:Nat):Int)=16 from rfl,show s.length-16+16=s.length by omega] at v3
            rw [v3]
            refine (okW_st fun _=>?_).trans (if_pos rfl)
            unfold m3W slotW tgtW tagW
            have w1:(rdUint (stR s 1) 4).1=_:=rdU_val (k:=4) (by decide) (by omega)
            have w2:(rdBytes (stR s 5) 32).1=_:=rdB_val (k:=32) (by omega)
            have w5:(rdBytes (stR s (s.length-16)) 16).1=_:=rdB_val (k:=16) (by omega)
            rw [w1,w2,w5]
          · rw [if_neg hg,if_neg fun q=>hg q.2]
        · rw [if_neg (show ¬ (53≤s.length∧(getB (midW s) 16).isSome=true) from fun q=>hn q.1)]
          have e1:rdBytes (stR s 37) (((stR s 37).rest.length:Int)-16)=([],⟨[],true⟩):=by
            by_cases h4:37≤s.length
            · rw [stR_ok h4]
              exact rdBytes_bad (.inr (.inl (by simp only [List.length_drop];omega)))
            · rw [stR_bad (by omega)]
              exact rdBytes_bad (.inl rfl)
          rw [e1]
          dsimp only
          rw [getB_nil]
          rfl
      · rw [if_neg h3,if_neg h3]
        refine okW_no ?_
        rintro ⟨_,q⟩
        have:=goodW_k q
        dsimp only at this
        omega
def bySt (s:List UInt8) (o q:Nat):UInt8:=UInt8.ofNat (rdUint (stR s (o+q)) 1).1
theorem overB_full {r ys:List UInt8} {k:Nat} (h:ys.length=k) (hr:r.length≤k):overB r ys (min ys.length k)=ys:=by
  unfold overB
  rw [h,Nat.min_self,List.take_of_length_le (by omega),List.drop_eq_nil_of_le hr,List.append_nil]
def tgS (s:List UInt8) (i:Nat):Root:=⟨(List.range 32).map fun q=>if q<i then bySt s 5 q else 0,by simp⟩
def taS (s:List UInt8) (o i:Nat):Tag:=⟨(List.range 16).map fun q=>if q<i then bySt s o q else 0,by simp⟩
theorem chk_yes {m:MsgP} (h:goodW m.kind m.slot m.member m.body m.bits=true):chk m=(m,true):=if_pos h
theorem byteI_nat {k:Int} (h1:1≤k) (h2:k≤3):((byteI k).toNat:Int)=k:=by
  have h3:k=1∨k=2∨k=3:=by omega
  rcases h3 with rfl | rfl | rfl<;>decide
theorem leNat_cons1 (b:UInt8) (l:List UInt8):leNat ((b::l).take 1)=b.toNat:=by simp [leNat]
theorem le_put {A k:Nat} (h:A<256 ^ k):leNat (putB A k)=A:=by rw [leNat_putB,Nat.mod_eq_of_lt h]
theorem root_over {t:Root}:Root.zero.over t.1=t:=Subtype.ext (overB_full t.2 (Nat.le_of_eq Root.zero.2))
theorem tag_over {t:Tag}:Tag.zero.over t.1=t:=Subtype.ext (overB_full t.2 (Nat.le_of_eq Tag.zero.2))
theorem take_mid (p x q:List UInt8) (n m:Nat) (hn:p.length=n) (hm:x.length=m):((p++(x++q)).drop n).take m=x:=by
  subst hn hm
  rw [List.drop_left,List.take_left]
theorem dec_enc {k sl mb:Int} {bd:Nat} {bits:List Bool} {tg:Root} {tag:Tag} (h:goodW k sl mb bd bits=true) (hbd:bd<18446744073709551616):decW (plainW k sl tg mb bd bits++tag.1)=(⟨k,sl,tg,mb,bd,bits,tag⟩,true):=by
  have g:=goodW_iff.1 h
  obtain ⟨hk1,hk2⟩:=goodW_k h
  have hkn:=byteI_nat hk1 hk2
  generalize hS:plainW k sl tg mb bd bits++tag.1=S
  have e0:S=[byteI k]++(putB (u64N sl) 4++(tg.1++(bodyW k mb bd bits++tag.1))):=by rw [←hS];unfold plainW;simp only [List.append_assoc]
  have hl:S.length=53+(bodyW k mb bd bits).length:=by rw [e0];simp only [List.length_append,List.length_singleton,putB_length,tg.2,tag.2];omega
  have ek:kindW S=k:=by
    unfold kindW
    rw [e0]
    have:leNat (([byteI k]++(putB (u64N sl) 4++(tg.1++(bodyW k mb bd bits++tag.1)))).take 1)=(byteI k).toNat:=leNat_cons1 _ _
    rw [this]
    exact hkn
  have usl:=u64N_nat g.1 (by omega)
  have esl:slotW S=sl:=by
    unfold slotW
    rw [e0,take_mid [byteI k] (putB (u64N sl) 4) _ 1 4 rfl (putB_length _ _),le_put (by rw [usl];omega),usl]
    omega
  have etg:tgtW S=tg:=by
    unfold tgtW
    have:S=([byteI k]++putB (u64N sl) 4)++(tg.1++(bodyW k mb bd bits++tag.1)):=by rw [e0];simp only [List.append_assoc]
    rw [this,take_mid _ tg.1 _ 5 32 (by simp [putB_length]) tg.2]
    exact root_over
  have hp:∀ x y:List UInt8,bodyW k mb bd bits=x++y→S=([byteI k]++putB (u64N sl) 4++tg.1++x)++(y++tag.1):=fun x y e=>by rw [e0,e];simp only [List.append_assoc]
  have hpl:([byteI k]++putB (u64N sl) 4++tg.1).length=37:=by simp [putB_length,tg.2]
  have etag:∀ o,S.length=o+16→tagW S o=tag:=fun o ho=>by
    unfold tagW
    have:S=([byteI k]++putB (u64N sl) 4++tg.1++bodyW k mb bd bits)++(tag.1++[]):=by rw [e0];simp only [List.append_assoc,List.append_nil]
    rw [this,take_mid _ tag.1 [] o 16 (by rw [List.length_append,hpl];omega) tag.2]
    exact tag_over
  unfold decW
  rw [ek]
  have hk:k=1∨k=2∨k=3:=by omega
  rcases hk with rfl | rfl | rfl
  · have hb:bodyW 1 mb bd bits=putB (u64N mb) 2++putB bd 8:=if_pos rfl
    have umb:=u64N_nat (n:=mb) (by omega) (by omega)
    have hl2:S.length=63:=by rw [hl,hb];simp [putB_length]
    have em:memW S=mb:=by
      unfold memW
      have e1:S=([byteI 1]++putB (u64N sl) 4++tg.1)++(putB (u64N mb) 2++(putB bd 8++tag.1)):=by rw [e0,hb];simp only [List.append_assoc]
      rw [e1,take_mid _ (putB (u64N mb) 2) _ 37 2 hpl (putB_length _ _),le_put (by rw [umb];omega),umb]
      omega
    have ed:bdW S=bd:=by
      unfold bdW
      rw [hp _ _ hb,take_mid _ (putB bd 8) _ 39 8 (by rw [List.length_append,hpl,putB_length]) (putB_length _ _),le_put (by omega)]
    have l1:bits=[]:=List.eq_nil_of_length_eq_zero (by omega)
    rw [if_pos rfl,if_pos hl2]
    have em1:m1W S=⟨1,sl,tg,mb,bd,bits,tag⟩:=by unfold m1W;rw [ek,esl,etg,em,ed,etag 47 (by omega),l1]
    rw [em1]
    exact chk_yes h
  · have hb:bodyW 2 mb bd bits=putB (u64N mb) 2:=by unfold bodyW;rw [if_neg (by decide),if_pos rfl]
    have umb:=u64N_nat (n:=mb) (by omega) (by omega)
    have hl2:S.length=55:=by rw [hl,hb];simp [putB_length]
    have em:memW S=mb:=by
      unfold memW
      have e1:S=([byteI 2]++putB (u64N sl) 4++tg.1)++(putB (u64N mb) 2++tag.1):=by rw [e0,hb];simp only [List.append_assoc]
      rw [e1,take_mid _ (putB (u64N mb) 2) _ 37 2 hpl (putB_length _ _),le_put (by rw [umb];omega),umb]
      omega
    have l1:bits=[]:=List.eq_nil_of_length_eq_zero (by omega)
    have l2:bd=0:=by omega
    rw [if_neg (by decide),if_pos rfl,if_pos hl2]
    have em1:m2W S=⟨2,sl,tg,mb,bd,bits,tag⟩:=by unfold m2W;rw [ek,esl,etg,em,etag 39 (by omega),l1,l2]
    rw [em1]
    exact chk_yes h
  · have hb:bodyW 3 mb bd bits=enc8 bits:=by unfold bodyW;rw [if_neg (by decide),if_neg (by decide),if_pos rfl]
    have he:=enc8_length bits
    have emid:midW S=enc8 bits:=by
      unfold midW
      have e1:S=([byteI 3]++putB (u64N sl) 4++tg.1)++(enc8 bits++tag.1):=by rw [e0,hb];simp only [List.append_assoc]
      rw [show S.length-53=(enc8 bits).length by rw [hl,hb];omega,e1]
      exact take_mid _ (enc8 bits) _ 37 _ hpl rfl
    have hg:=getB_enc8 bits 16 (by omega)
    have l2:bd=0:=by omega
    have l3:mb=0:=by omega
    rw [if_neg (by decide),if_neg (by decide),if_pos rfl,if_pos ⟨by rw [hl];omega,by rw [emid,hg];rfl⟩]
    have em1:m3W S=⟨3,sl,tg,mb,bd,bits,tag⟩:=by
      unfold m3W getD'
      rw [ek,esl,etg,etag (S.length-16) (by omega),emid,hg,l2,l3]
      rfl
    rw [em1]
    exact chk_yes h
def GoodB (sl mb:Int):Prop:=0≤sl∧sl≤1073741824∧0≤mb∧mb≤65535
theorem GoodB.good {sl mb:Int} (h:GoodB sl mb):goodW 1 sl mb 0 []=true:=by
 obtain ⟨h1,h2,h3,h4⟩:=h
 unfold goodW
 exact decide_eq_true ⟨h1,h2,h3,h4,.inl rfl,.inr ⟨.inl rfl,rfl⟩⟩
def plainB (sl:Int) (tg:Root) (mb:Int):List UInt8:=plainW 1 sl tg mb 0 []
def txtB (sl:Int) (tg:Root) (mb:Int) (tag:Tag):List UInt8:=plainB sl tg mb++tag.1
def rtB (sl:Int) (tg:Root) (mb:Int) (tag:Tag):Root:=shaM (txtB sl tg mb tag)
theorem plainB_len (sl:Int) (tg:Root) (mb:Int):(plainB sl tg mb).length=47:=by unfold plainB plainW bodyW;simp [putB_length,root_len]
theorem txtB_len (sl:Int) (tg:Root) (mb:Int) (tag:Tag):(txtB sl tg mb tag).length=63:=by unfold txtB;rw [List.length_append,plainB_len,tag_len]
theorem decB {sl mb:Int} (tg:Root) (tag:Tag) (h:GoodB sl mb):decP (txtB sl tg mb tag)=(⟨1,sl,tg,mb,0,[],tag⟩,true):=by rw [decP_eq];exact dec_enc h.good (by decide)
theorem RootB_calls {w0 w:World} {l:List HProp} (sl:Int) (tg:Root) (mb:Int) (bo:Option Addr) (bc:Nat) (tag:Tag) (hs:Sat w0 w l) (hgb:GoodB sl mb):Calls Tryz.prog 134 #[.agg (msgC ⟨1,sl,tg,mb,0,⟨bo,0,bc⟩,tag⟩).toArray] w (Ret w0 fun v l'=>v=.agg (rootC (rtB sl tg mb tag)).toArray∧l'=l):=by
 have q:=WRoot_calls 1 sl tg mb 0 bo bc [] tag hs (rds_emp _ _) (by decide) (by decide)
 exact q
theorem RBytesB_calls {w0 w:World} {l:List HProp} (sl:Int) (tg:Root) (mb:Int) (bo:Option Addr) (bc:Nat) (tag:Tag) (hs:Sat w0 w l) (hgb:GoodB sl mb):Calls Tryz.prog 11 #[.agg (msgC ⟨1,sl,tg,mb,0,⟨bo,0,bc⟩,tag⟩).toArray] w (Ret w0 fun v l'=>v=.string (B (txtB sl tg mb tag))∧l'=l):=by
 have q:=WRBytes_calls 1 sl tg mb 0 bo bc [] tag hs (rds_emp _ _) (by decide) (by decide) hgb.good
 exact q
theorem RRootB_calls {w0 w:World} {l:List HProp} (sl:Int) (tg:Root) (mb:Int) (bo:Option Addr) (bc:Nat) (tag:Tag) (hs:Sat w0 w l) (hgb:GoodB sl mb):Calls Tryz.prog 12 #[.agg (msgC ⟨1,sl,tg,mb,0,⟨bo,0,bc⟩,tag⟩).toArray] w (Ret w0 fun v l'=>v=.agg (rootC (rtB sl tg mb tag)).toArray∧l'=l):=by
 have q:=WRRoot_calls 1 sl tg mb 0 bo bc [] tag hs (rds_emp _ _) (by decide) (by decide) hgb.good
 exact q
theorem OrPut_calls {w0 w:World} {l:List HProp} (po pp:Nat) (most quota:Int) (L:List PItem) (peer sl:Int) (tg:Root) (mb:Int) (tag:Tag) (hs:Sat w0 w ((Blk po (.cells #[.pointer (some ⟨pp,0,none⟩)] 111 (0,0)))::(PoolObj pp most quota L)::l)) (hgb:GoodB sl mb) (hL:L.length<64) (hm:(L.length:Int)<most) (hq:(cntP peer L:Int)<quota) (hno:∀ y∈L,y.root≠rtB sl tg mb tag) :
  Calls Tryz.prog 135 #[.pointer (some ⟨po,0,none⟩),.int .i64 peer,.string (B (txtB sl tg mb tag))] w (Ret w0 fun v l'=>v=.tuple #[.int .i64 1,.agg (rootC Root.zero).toArray]∧l'=Blk po (.cells #[.pointer (some ⟨pp,0,none⟩)] 111 (0,0))::PoolObj pp most quota (⟨sl,rtB sl tg mb tag,peer,tg,txtB sl tg mb tag⟩::L)::l):=by
 have hxl:=txtB_len sl tg mb tag
 have hdec:=decB tg tag hgb
 refine calls_enter Tryz.func135 rfl rfl rfl hs ?_
 refine R2 ?_
 refine Zp ?_;intro bx1
 refine R4 ?_
 refine oi (os_call cb_73 rfl (fun w s=>by have q:=DecB_calls _ _ _ _ _  s (by omega) hdec;exact q)) ?_;rintro _ _ ⟨da1,dc1,rfl,rfl⟩
 refine R3 ?_
 refine Z3x ?_;intro bx2
 refine Z17 ?_
 refine R6 ?_
 refine oq (op_eqnil Tryz.underlying59 rfl rfl) ?_
 refine R1 ?_
 refine ol_q (wn_some rfl rfl rfl rfl rfl) (op_move (v:=.bool _) rfl) rfl ?_
 refine Z6l ?_
 refine Z1n ?_
 refine R1 ?_
 refine ol_q (wn_some rfl rfl rfl rfl rfl) (op_field fld_46_0 rfl) rfl ?_
 refine ol_q (wn_some rfl rfl rfl rfl rfl) (op_ld 0 sc_3 rfl rfl (msgC_a0 _)) rfl ?_
 refine ol_q (wn_some rfl rfl rfl rfl rfl) (op_ne rfl rfl) rfl ?_
 refine Z1n ?_
 refine Z8 ?_ ?_
 ·intro hb1 hp1
  exact absurd hb1 (by simp)
 intro hb1 hp1
 refine R2 ?_
 refine cd_pull3 ?_
 refine R1 ?_
 refine cd_drawe (M:=[_]) mx [7,13,17,19] ?_
 refine Z4t ?_
 refine e_q 1 rfl (wn_none rfl) (op_nilck rfl) ?_
 refine e_q 2 rfl (wn_none rfl) (op_field fld_111_0 rfl) ?_
 refine e_q 3 rfl (wn_none rfl) (op_ld 2 sc_109 rfl rfl rfl) ?_
 refine e_q 4 rfl (wn_none rfl) (op_field fld_46_1 rfl) ?_
 refine e_q 5 rfl (wn_none rfl) (op_ld 0 sc_3 rfl rfl (msgC_a1 _)) ?_
 refine e_q 6 rfl (wn_none rfl) (op_lda (L:=msgC _) 0 ag_46 rfl rfl (msgC_ta _) (by simp [msgC_len])) ?_
 refine Z7o ?_
 refine e_q 9 rfl (wn_none rfl) (op_field fld_46_2 rfl) ?_
 refine e_q 10 rfl (wn_none rfl) (op_lda (L:=rootC _) 0 ag_35 rfl rfl (msgC_af2 _) (by simp [msgC_len])) ?_
 refine e_q 11 rfl (wn_none rfl) (op_move (v:=.string _) rfl) ?_
 refine et_2 (i1:=7) (i2:=17) (by kernel_rfl) ?_ ?_
 ·
  refine ei_i rfl rfl (wn_none rfl) (os_call cb_134 rfl (fun w s=>RootB_calls _ _ _ _ _ _  s (by assumption))) rfl ?_;rintro _ _ ⟨rfl,rfl⟩;refine ⟨[_],rfl,?_⟩
  refine Zaw ?_
  refine et_2 (i1:=13) (i2:=17) (by kernel_rfl) ?_ ?_
  ·
   refine ei_i rfl rfl (wn_none rfl) (os_call cb_138 rfl (fun w s=>PPut_calls (x:=⟨sl,rtB sl tg mb tag,peer,tg,txtB sl tg mb tag⟩) _ _ _ _  s hL hm hq hno)) rfl ?_;rintro _ _ ⟨rfl,rfl⟩;refine ⟨[_],rfl,?_⟩
   refine e_q 14 rfl (wn_none rfl) (op_move (v:=.tuple _) rfl) ?_
   refine Za7 ?_
   refine et_1 (i:=17) (by kernel_rfl) ?_
   refine Z9q ?_;intro bx3
   refine e_q 18 rfl (wn_none rfl) (op_assign (v:=.int _ _) rfl) ?_
   refine et_1 (i:=19) (by kernel_rfl) ?_
   refine ei_iN rfl rfl (wn_none rfl) (os_storew (pItemC _) ag_159 rfl rfl (pItemC_len _) (pItemC_one _) (by simp [pItemC_len]) (Free.zero _)) ?_;rintro _ _ ⟨rfl,rfl⟩;refine ⟨[_,_],rfl,?_⟩
   refine Z9 ?_
   refine cd_drawt (M:=[]) mx [] 4 (by kernel_rfl) rfl rfl ?_
   dsimp only [List.take_succ_cons,List.take_zero,List.drop_succ_cons,List.drop_zero]
   refine R4 ?_
   refine rg_tail0 ?_
   refine Zg ?_
   refine Z18 ?_
   exact Z9r
  refine Z9q ?_;intro bx4
  refine Z1a ?_
  refine Zax ?_
  refine e_q 14 rfl (wn_none rfl) (op_move (v:=.tuple _) rfl) ?_
  refine Za7 ?_
  refine e_q 18 rfl (wn_none rfl) (op_assign (v:=.int _ _) rfl) ?_
  refine et_1 (i:=19) (by kernel_rfl) ?_
  refine Zay ?_
  refine Z9 ?_
  refine cd_drawt (M:=[]) mx [] 4 (by kernel_rfl) rfl rfl ?_
  dsimp only [List.take_succ_cons,List.take_zero,List.drop_succ_cons,List.drop_zero]
  refine R4 ?_
  refine rg_tail0 ?_
  refine Zg ?_
  refine Z18 ?_
  exact Z9r
 refine Z9q ?_;intro bx5
 refine Zc ?_
 refine ei_i rfl rfl (wn_none rfl) (os_call cb_134 rfl (fun w s=>RootB_calls _ _ _ _ _ _  s (by assumption))) rfl ?_;rintro _ _ ⟨rfl,rfl⟩;refine ⟨[_,_],rfl,?_⟩
 refine Zaw ?_
 refine Z1a ?_
 refine Zax ?_
 refine e_q 14 rfl (wn_none rfl) (op_move (v:=.tuple _) rfl) ?_
 refine Za7 ?_
 refine e_q 18 rfl (wn_none rfl) (op_assign (v:=.int _ _) rfl) ?_
 refine et_1 (i:=19) (by kernel_rfl) ?_
 refine Zay ?_
 refine Z9 ?_
 refine cd_drawt (M:=[]) mx [] 4 (by kernel_rfl) rfl rfl ?_
 dsimp only [List.take_succ_cons,List.take_zero,List.drop_succ_cons,List.drop_zero]
 refine R4 ?_
 refine rg_tail0 ?_
 refine Zg ?_
 refine Z18 ?_
 exact Z9r
theorem EaRipe_calls {w0 w:World} {l:List HProp} (po pp:Nat) (most quota:Int) (now:Int) (hs:Sat w0 w ((Blk po (.cells #[.pointer (some ⟨pp,0,none⟩)] 163 (0,0)))::(PoolObj pp most quota [])::l))  :
  Calls Tryz.prog 28 #[.pointer (some ⟨po,0,none⟩),.int .i64 now] w (Ret w0 fun v l'=>v=.slice none 0 0∧l'=Blk po (.cells #[.pointer (some ⟨pp,0,none⟩)] 163 (0,0))::PoolObj pp most quota []::l):=by
 refine calls_enter Tryz.func28 rfl rfl rfl hs ?_
 refine R1 ?_
 refine oi (os_box (v:=.int _ _) rfl rfl) ?_;rintro _ _ ⟨bx1,rfl,rfl⟩
 refine R6 ?_
 refine oq (op_eqnil Tryz.underlying77 rfl rfl) ?_
 refine Zi ?_
 refine R3 ?_
 refine oq (op_makefunc (F:=[]) (C:=[_]) rfl rfl) ?_
 refine Z5f ?_
 refine R12 ?_
 refine Z4r ?_
 refine Z7 ?_
 refine oi (os_call cb_72 rfl (fun w s=>PTake0_calls _ _ _ _  s )) ?_;rintro _ _ ⟨rfl,rfl⟩
 refine Z6o ?_
 refine R4 ?_
 refine cd_loop2 (α:=Unit) [(6,6),(8,10),(21,35)] (fun x=>[(6,.slice none 0 0),(21,.int .i64 0)]) (fun _=>_) (fun x=>True) (fun x=>0) () trivial ⟨rfl,rfl,trivial⟩ (fun _ s=>s) ?_
 rintro ⟨⟩ _ f;(try dsimp only)
 refine Z3 ?_ ?_
 ·intro hb1 hp1
  exact absurd (of_decide_eq_true hb1) (by decide)
 intro hb1 hp1
 refine R11 ?_
 exact px_ret1 rfl (v:=.slice _ _ _) rfl (fun _ s=>((s.del 1).pull 1)) ⟨rfl,rfl⟩
open Go.Sort
instance:Inhabited SeatR:=⟨SeatR.zero⟩
def boardT:List UInt8:=[98,111,97,114,100]
def lotR (slot:Int) (who:Nat):Root:=shaM (boardT++putB (u64N slot) 4++putB who 2)
/-- the place of the least digest among those that are not taken,the first of the same -/
def leastO (f:Nat→Root) (tk:List Nat):Nat→Option Nat
 | 0=>none
 | k+1=>match leastO f tk k with
  | none=>if k∈tk then none else some k
  | some b=>if k∉tk∧Op.bytesLess (f k).1 (f b).1=true then some k else some b
def bfo (f:Nat→Root) (j m:Nat):Prop:=Op.bytesLess (f j).1 (f m).1=true∨(f j=f m∧j<m)
theorem bfo_tri (f:Nat→Root) {j m:Nat} (h:¬ bfo f j m) (hne:j≠m):bfo f m j:=by
 unfold bfo at *
 cases h4:Op.bytesLess (f m).1 (f j).1 with
 | true=>exact .inl rfl
 | false =>
  have e:f j=f m:=Subtype.ext (bl_tri (by rw [(f j).2,(f m).2]) (by simpa using fun q=>h (.inl q)) h4)
  have h5:¬ j<m:=fun q=>h (.inr ⟨e,q⟩)
  exact .inr ⟨e.symm,by omega⟩
theorem bfo_asym (f:Nat→Root) {j m:Nat} (h:bfo f j m) (h2:bfo f m j):False:=by
 rcases h with h | ⟨h,h1⟩<;>rcases h2 with h2 | ⟨h2,h3⟩
 ·have:=bl_trans h h2;rw [bl_irrefl] at this;cases this
 ·rw [h2,bl_irrefl] at h;cases h
 ·rw [h,bl_irrefl] at h2;cases h2
 ·omega
theorem leastO_spec (f:Nat→Root) (tk:List Nat):∀ n,(leastO f tk n=none∧∀ j,j<n→j∈tk)∨∃ m,leastO f tk n=some m∧m<n∧m∉tk∧∀ j,j<n→j∉tk→j≠m→bfo f m j
 | 0=>.inl ⟨rfl,fun j h=>absurd h (by omega)⟩
 | k+1=>by
  unfold leastO
  rcases leastO_spec f tk k with ⟨h1,h2⟩ | ⟨m,h1,h2,h3,h4⟩
  ·rw [h1]
   by_cases hk:k∈tk
   ·left
    refine ⟨if_pos hk,fun j hj=>?_⟩
    rcases Nat.lt_succ_iff_lt_or_eq.1 hj with h | rfl
    ·exact h2 j h
    ·exact hk
   ·right
    refine ⟨k,if_neg hk,by omega,hk,fun j hj hn hne=>?_⟩
    exact absurd (h2 j (by omega)) hn
  ·rw [h1]
   right
   by_cases hb:k∉tk∧Op.bytesLess (f k).1 (f m).1=true
   ·refine ⟨k,if_pos hb,by omega,hb.1,fun j hj hn hne=>.inl ?_⟩
    by_cases hjm:j=m
    ·rw [hjm];exact hb.2
    ·rcases h4 j (by omega) hn hjm with h | ⟨h,_⟩
     ·exact bl_trans hb.2 h
     ·rw [←h];exact hb.2
   ·refine ⟨m,if_neg hb,by omega,h3,fun j hj hn hne=>?_⟩
    rcases Nat.lt_succ_iff_lt_or_eq.1 hj with h | rfl
    ·exact h4 j h hn hne
    ·refine bfo_tri f (fun q=>?_) hne
     rcases q with q | ⟨_,q⟩
     ·exact hb ⟨hn,q⟩
     ·omega
theorem leastO_uniq {f:Nat→Root} {tk:List Nat} {n m:Nat} (hm:m<n) (ht:m∉tk) (h:∀ k,k<n→k∉tk→k≠m→¬ bfo f k m):leastO f tk n=some m:=by
 rcases leastO_spec f tk n with ⟨_,h2⟩ | ⟨q,h1,h2,h3,h4⟩
 ·exact absurd (h2 m hm) ht
 ·by_cases e:q=m
  ·rw [h1,e]
  ·exact absurd (h4 m hm ht (Ne.symm e)) (h q h2 h3 e)
theorem least_none {f:Nat→Root} {tk:List Nat} {i:Nat} (h:leastO f tk i=none):leastO f tk (i+1)=if i∈tk then none else some i:=by
 show (match leastO f tk i with | none=>_ | some b=>_)=_
 rw [h]
theorem least_some {f:Nat→Root} {tk:List Nat} {i b:Nat} (h:leastO f tk i=some b):leastO f tk (i+1)=if i∉tk∧Op.bytesLess (f i).1 (f b).1=true then some i else some b:=by
 show (match leastO f tk i with | none=>_ | some b=>_)=_
 rw [h]
theorem covers_le:∀ (n:Nat) (l:List Nat),(∀ j,j<n→j∈l)→n≤l.length
 | 0,_,_=>Nat.zero_le _
 | n+1,l,h=>by
  have h1:=covers_le n (l.erase n) (fun j hj=>(List.mem_erase_of_ne (by omega)).2 (h j (by omega)))
  rw [List.length_erase_of_mem (h n (by omega))] at h1
  have h2:=List.length_pos_of_mem (h n (by omega))
  omega
theorem nodup_mapI {α β:Type} {g:α→β} {l:List α} (hg:∀ a b,g a=g b→a=b) (h:l.Nodup):(l.map g).Nodup:=by
 unfold List.Nodup at *
 rw [List.pairwise_map]
 exact h.imp fun hne e=>hne (hg _ _ e)
/-- the first k places in order -/
def memL (f:Nat→Root) (n:Nat):Nat→List Nat
 | 0=>[]
 | k+1=>memL f n k++(leastO f (memL f n k) n).toList
theorem memL_inv (f:Nat→Root) (n:Nat):∀ k,k≤n→(memL f n k).length=k∧(memL f n k).Nodup∧∀ j∈memL f n k,j<n
 | 0,_=>⟨rfl,List.nodup_nil,fun j h=>by cases h⟩
 | k+1,hk=>by
  obtain ⟨i1,i2,i3⟩:=memL_inv f n k (by omega)
  unfold memL
  rcases leastO_spec f (memL f n k) n with ⟨_,h2⟩ | ⟨m,h1,h2,h3,h4⟩
  ·have:=covers_le n _ h2
   rw [i1] at this
   omega
  ·rw [h1]
   refine ⟨by simp [i1],?_,fun j hj=>?_⟩
   ·rw [Option.toList_some,List.nodup_append]
    refine ⟨i2,by simp,fun a ha b hb=>?_⟩
    rw [List.mem_singleton] at hb;subst hb
    rintro rfl
    exact h3 ha
   ·rw [Option.toList_some,List.mem_append,List.mem_singleton] at hj
    rcases hj with hj | rfl
    ·exact i3 j hj
    ·exact h2
theorem memL_next (f:Nat→Root) (n:Nat) {k:Nat} (h:k<n):∃ m,leastO f (memL f n k) n=some m∧m<n∧m∉memL f n k∧memL f n (k+1)=memL f n k++[m]:=by
 rcases leastO_spec f (memL f n k) n with ⟨h1,h2⟩ | ⟨m,h1,h2,h3,h4⟩
 ·have:=(memL_inv f n (k+1) (by omega)).1
  unfold memL at this
  rw [h1,Option.toList_none,List.append_nil,(memL_inv f n k (by omega)).1] at this
  omega
 ·exact ⟨m,h1,h2,h3,by show memL f n k++(leastO f (memL f n k) n).toList=_;rw [h1];rfl⟩
/-- before,of seats -/
def cmpN (a b:Int):Int:=if a<b then -1 else if b<a then 1 else 0
def cmpS (a b:SeatR):Int:=if Op.bytesLess a.lot.1 b.lot.1=true then -1 else if Op.bytesLess b.lot.1 a.lot.1=true then 1 else cmpN a.who b.who
theorem cmpS_lt {a b:SeatR}:cmpS a b<0↔Op.bytesLess a.lot.1 b.lot.1=true∨(a.lot=b.lot∧a.who<b.who):=by
 unfold cmpS
 by_cases h1:Op.bytesLess a.lot.1 b.lot.1=true
 ·rw [if_pos h1];simp [h1]
 ·rw [if_neg h1]
  by_cases h2:Op.bytesLess b.lot.1 a.lot.1=true
  ·rw [if_pos h2]
   refine ⟨fun h=>absurd h (by decide),fun h=>?_⟩
   rcases h with h | ⟨h,_⟩
   ·exact absurd h h1
   ·rw [h,bl_irrefl] at h2;cases h2
  ·rw [if_neg h2]
   have e:a.lot=b.lot:=Subtype.ext (bl_tri (by rw [a.lot.2,b.lot.2]) (by simpa using h1) (by simpa using h2))
   unfold cmpN
   constructor
   ·intro h
    right
    refine ⟨e,?_⟩
    split at h
    ·assumption
    ·split at h<;>omega
   ·rintro (h | ⟨_,h⟩)
    ·exact absurd h h1
    ·rw [if_pos h];decide
theorem swo_cmpS:SWO (ltOf cmpS) where
 irrefl x:=by
  unfold ltOf
  refine decide_eq_false fun h=>?_
  rcases cmpS_lt.1 h with h | ⟨_,h⟩
  ·rw [bl_irrefl] at h;cases h
  ·omega
 trans x y z h1 h2:=by
  unfold ltOf at *
  refine decide_eq_true (cmpS_lt.2 ?_)
  rcases cmpS_lt.1 (of_decide_eq_true h1) with h1 | ⟨h1,h3⟩<;>rcases cmpS_lt.1 (of_decide_eq_true h2) with h2 | ⟨h2,h4⟩
  ·exact .inl (bl_trans h1 h2)
  ·rw [←h2];exact .inl h1
  ·rw [h1];exact .inl h2
  ·exact .inr ⟨h1.trans h2,by omega⟩
 ntrans x y z h1 h2:=by
  unfold ltOf at *
  have n1:=fun h=>of_decide_eq_false h1 (cmpS_lt.2 h)
  have n2:=fun h=>of_decide_eq_false h2 (cmpS_lt.2 h)
  refine decide_eq_false fun h=>?_
  have b1:Op.bytesLess x.lot.1 y.lot.1=false:=by cases q:Op.bytesLess x.lot.1 y.lot.1 with | false=>rfl | true=>exact absurd (.inl q) n1
  have b2:Op.bytesLess y.lot.1 z.lot.1=false:=by cases q:Op.bytesLess y.lot.1 z.lot.1 with | false=>rfl | true=>exact absurd (.inl q) n2
  have b3:=blr_ntrans b1 b2
  rcases cmpS_lt.1 h with h | ⟨h,h3⟩
  ·rw [b3] at h;cases h
  ·have e1:x.lot=y.lot:=by
    cases q:Op.bytesLess y.lot.1 x.lot.1 with
    | false=>exact Subtype.ext (bl_tri (by rw [x.lot.2,y.lot.2]) b1 q)
    | true=>rw [h] at q;rw [q] at b2;cases b2
   have e2:y.lot=z.lot:=e1.symm.trans h
   have m1:¬ x.who<y.who:=fun q=>n1 (.inr ⟨e1,q⟩)
   have m2:¬ y.who<z.who:=fun q=>n2 (.inr ⟨e2,q⟩)
   omega
def seatsL (slot:Int) (n:Nat):List SeatR:=(List.range n).map fun k=>⟨lotR slot k,(k:Int)⟩
theorem seatsL_len (slot:Int) (n:Nat):(seatsL slot n).length=n:=by unfold seatsL;simp
theorem seatsL_succ (slot:Int) (n:Nat):seatsL slot n++[⟨lotR slot n,(n:Int)⟩]=seatsL slot (n+1):=by unfold seatsL;rw [List.range_succ,List.map_append];rfl
def lotsL (slot:Int) (n:Nat):List Root:=(List.range n).map (lotR slot)
theorem lotsL_len (slot:Int) (n:Nat):(lotsL slot n).length=n:=by unfold lotsL;simp
theorem lotsL_succ (slot:Int) (n:Nat):lotsL slot n++[lotR slot n]=lotsL slot (n+1):=by unfold lotsL;rw [List.range_succ,List.map_append];rfl
theorem lotsL_get {slot:Int} {n i:Nat} (h:i<(lotsL slot n).length):(lotsL slot n)[i]=lotR slot i:=by simp [lotsL]
theorem seatsL_mem {slot:Int} {n:Nat} {y:SeatR} (h:y∈seatsL slot n):∃ q,q<n∧y=⟨lotR slot q,(q:Int)⟩:=by
 obtain ⟨q,h1,h2⟩:=List.mem_map.1 h
 exact ⟨q,List.mem_range.1 h1,h2.symm⟩
theorem seatsL_nodup (slot:Int) (n:Nat):(seatsL slot n).Nodup:=by
 unfold seatsL
 exact nodup_mapI (fun a b e=>by injection e with _ e2;omega) List.nodup_range
/-- seats in order,cut,are the first places -/
theorem sorted_take {slot:Int} {n:Nat} {d2:List SeatR} (hp:d2.Perm (seatsL slot n)) (hs:∀ i j (hi:i<d2.length) (hj:j<d2.length),i<j→cmpS d2[j] d2[i]<0→False):∀ k,k≤n→(d2.take k).map (·.who)=(memL (lotR slot) n k).map (fun i:Nat=>(i:Int))
 | 0,_=>rfl
 | k+1,hk=>by
  have ih:=sorted_take hp hs k (by omega)
  have hl:d2.length=n:=by rw [hp.length_eq,seatsL_len]
  have hnd:d2.Nodup:=hp.nodup_iff.2 (seatsL_nodup slot n)
  obtain ⟨m,h1,h2,h3,h4⟩:=memL_next (lotR slot) n (k:=k) (by omega)
  rw [List.take_succ_eq_append_getElem (by omega),List.map_append,ih,h4,List.map_append]
  congr 1
  obtain ⟨q,hq,hqe⟩:=seatsL_mem (hp.mem_iff.1 (List.getElem_mem (l:=d2) (n:=k) (by omega)))
  have mem_iff:∀ j,j<n→(j∈memL (lotR slot) n k↔∃ i,∃ h:i<d2.length,i<k∧d2[i]=⟨lotR slot j,(j:Int)⟩):=fun j hj=>by
   constructor
   ·intro h
    have:(j:Int)∈(d2.take k).map (·.who):=by rw [ih];exact List.mem_map.2 ⟨j,h,rfl⟩
    obtain ⟨y,hy,hye⟩:=List.mem_map.1 this
    obtain ⟨i,hi,hiy⟩:=List.mem_iff_getElem.1 hy
    rw [List.getElem_take] at hiy
    rw [List.length_take] at hi
    refine ⟨i,by omega,by omega,?_⟩
    rw [hiy]
    obtain ⟨z,_,hz⟩:=seatsL_mem (hp.mem_iff.1 (List.mem_of_mem_take hy))
    rw [hz] at hye ⊢
    have:z=j:=by have:(z:Int)=(j:Int):=hye;omega
    rw [this]
   ·rintro ⟨i,hi,hik,hie⟩
    have:(j:Int)∈(d2.take k).map (·.who):=List.mem_map.2 ⟨d2[i],List.mem_iff_getElem.2 ⟨i,by rw [List.length_take];omega,by rw [List.getElem_take]⟩,by rw [hie]⟩
    rw [ih] at this
    obtain ⟨z,hz,hze⟩:=List.mem_map.1 this
    have:z=j:=by have:(z:Int)=(j:Int):=hze;omega
    rw [←this];exact hz
  have hqt:q∉memL (lotR slot) n k:=fun h=>by
   obtain ⟨i,hi,hik,hie⟩:=(mem_iff q hq).1 h
   rw [←hqe] at hie
   have:=(List.getElem_inj hnd).1 hie
   omega
  have hmq:leastO (lotR slot) (memL (lotR slot) n k) n=some q:=leastO_uniq hq hqt fun j hj hjt hjq hb=>by
   have hj2:(⟨lotR slot j,(j:Int)⟩:SeatR)∈d2:=hp.mem_iff.2 (List.mem_map.2 ⟨j,List.mem_range.2 hj,rfl⟩)
   obtain ⟨i,hi1,hi2⟩:=List.mem_iff_getElem.1 hj2
   have hik:k<i:=by
    rcases Nat.lt_trichotomy i k with h | h | h
    ·exact absurd ((mem_iff j hj).2 ⟨i,hi1,h,hi2⟩) hjt
    ·subst h;rw [hqe] at hi2;injection hi2 with _ e2;omega
    ·exact h
   refine hs k i (by omega) hi1 hik ?_
   rw [hi2,hqe]
   refine cmpS_lt.2 ?_
   rcases hb with hb | ⟨hb,hb2⟩
   ·exact .inl hb
   ·exact .inr ⟨hb,by show (j:Int)<q;omega⟩
  rw [h1] at hmq
  injection hmq with e
  rw [List.map_singleton,List.map_singleton,hqe,e]
/-- a slot's members -/
def memI (n:Nat) (slot n2:Int):List Int:=(memL (lotR slot) n n2.toNat).map (fun i:Nat=>(i:Int))
theorem memI_len {n:Nat} {slot n2:Int} (h:n2≤n):(memI n slot n2).length=n2.toNat:=by
 unfold memI;rw [List.length_map];exact (memL_inv _ n _ (by omega)).1
theorem memI_lt {n:Nat} {slot n2:Int} (h:n2≤n) {m:Int} (hm:m∈memI n slot n2):0≤m∧m<n:=by
 unfold memI at hm
 obtain ⟨j,h1,rfl⟩:=List.mem_map.1 hm
 have:=(memL_inv (lotR slot) n _ (show n2.toNat≤n by omega)).2.2 j h1
 omega
theorem NaN_calls {w0 w:World} {l:List HProp} (x:Int) (hs:Sat w0 w (l))  :
  Calls Tryz.prog 229 #[.int .i64 x] w (Ret w0 fun v l'=>v=.bool false∧l'=l):=by
 refine calls_enter Tryz.func229 rfl rfl rfl hs ?_
 refine R12 ?_
 exact px_ret1 rfl (v:=.bool _) rfl (fun _ s=>s) ⟨congrArg Value.bool (by simp),rfl⟩
theorem Cmp_calls {w0 w:World} {l:List HProp} (x y:Int) (hs:Sat w0 w (l))  :
  Calls Tryz.prog 218 #[.int .i64 x,.int .i64 y] w (Ret w0 fun v l'=>v=.int .i64 (cmpN x y)∧l'=l):=by
 refine calls_enter Tryz.func218 rfl rfl rfl hs ?_
 refine R6 ?_
 refine oi (os_call cb_229 rfl (fun w s=>NaN_calls _  s )) ?_;rintro _ _ ⟨rfl,rfl⟩
 refine R5 ?_
 refine oi (os_call cb_229 rfl (fun w s=>NaN_calls _  s )) ?_;rintro _ _ ⟨rfl,rfl⟩
 refine R8 ?_
 refine Z23 ?_
 refine R7 ?_
 refine Z23 ?_
 refine R9 ?_
 refine Z4 ?_ ?_
 ·intro hb1 hp1
  refine R6 ?_
  exact Z9s
 intro hb1 hp1
 refine R9 ?_
 refine Z4 ?_ ?_
 ·intro hb2 hp2
  refine R6 ?_
  exact Z9s
 intro hb2 hp2
 refine R7 ?_
 exact Z9s
theorem SBefore_calls {w0 w:World} {l:List HProp} (x y:SeatR) (hs:Sat w0 w (l))  :
  Calls Tryz.prog 185 #[.agg (seatRC x).toArray,.agg (seatRC y).toArray] w (Ret w0 fun v l'=>v=.int .i64 (cmpS x y)∧l'=l):=by
 refine calls_enter Tryz.func185 rfl rfl rfl hs ?_
 refine Z1s ?_;intro bx1 bx2
 refine R10 ?_
 refine oi (os_call cb_146 rfl (fun w s=>Less_calls _ _  s )) ?_;rintro _ l ⟨rfl,rfl⟩
 refine Z6 ?_ ?_
 ·intro hb1 hp1
  refine R7 ?_
  exact Z9t
 intro hb1 hp1
 refine R5 ?_
 refine oi (os_call cb_146 rfl (fun w s=>Less_calls _ _  s )) ?_;rintro _ l ⟨rfl,rfl⟩
 refine Z6 ?_ ?_
 ·intro hb2 hp2
  refine R7 ?_
  exact Z9t
 intro hb2 hp2
 refine R8 ?_
 refine oi (os_call cb_218 rfl (fun w s=>Cmp_calls _ _  s )) ?_;rintro _ l ⟨rfl,rfl⟩
 refine R4 ?_
 exact Z9t
theorem SortS_calls {w0 w:World} {l:List HProp} (a:Option Addr) (c:Nat) (d:List SeatR) (hs:Sat w0 w (Row 305 encSeatR (.slice a d.length c) d::l)) (hd:d.length≤1000):Calls Tryz.prog 184 #[.slice a d.length c,.func (.func 185) #[] #[]] w (Ret w0 fun v l'=>∃ d2:List SeatR,d2.Perm d∧(∀ i j (hi:i<d2.length) (hj:j<d2.length),i<j→cmpS d2[j] d2[i]<0→False)∧v=.tuple #[]∧l'=Row 305 encSeatR (.slice a d.length c) d2::l) :=
 (sort_rows (E:=encSeatR) 305 Tryz.sortS Tryz.isAgg305 Tryz.sizeOf305 cmpS swo_cmpS 185 (enters_of Tryz.func185 (by kernel_rfl) rfl) (fun W x y=>SBefore_calls x y (Sat.start W)) hs (by omega)).mono fun e w1 ⟨v,l1,he,⟨d2,h1,h2,h3,h4⟩,s⟩=>⟨v,l1,he,⟨d2,h1,h2,h3,h4⟩,s⟩
theorem Lot_calls {w0 w:World} {l:List HProp} (slot:Int) (who:Nat) (hs:Sat w0 w (l)) (hw:who≤100000) :
  Calls Tryz.prog 183 #[.int .i64 slot,.int .i64 (who:Int)] w (Ret w0 fun v l'=>v=.agg (rootC (lotR slot who)).toArray∧l'=l):=by
 have hu:=u64N_lt slot
 refine calls_enter Tryz.func183 rfl rfl rfl hs ?_
 refine R1 ?_
 refine Zp ?_;intro bx1
 refine R4 ?_
 refine Z3j ?_
 refine ol_rownil (E:=encU8) 5 ?_
 refine oi (os_call cb_177 rfl (fun w s=>Put_calls (wd:=4) (ao:=none) (bs:=[]) (c:=0) _  s (by omega) (by decide))) ?_;rintro _ _ ⟨pa1,pc1,rfl,rfl⟩
 refine R1 ?_
 refine Z86 ?_
 refine oi (os_call cb_177 rfl (fun w s=>Put_calls (wd:=2) _ _ _ _  s (by omega) (by rw [show clamp8 4=4 from rfl];simp [putB_length]))) ?_;rintro _ _ ⟨pa2,pc2,rfl,rfl⟩
 refine Z2j ?_
 refine oi (os_bslice (E:=encStr) [_,_] (ys:=[_,_]) sB_37 zv_9 rfl rfl rfl rfl (by decide)) ?_;rintro _ _ ⟨ao1,rfl,rfl⟩
 refine oi (os_call cb_141 rfl (fun w s=>Of_calls _ _ _  s (rds_row 0 rfl rfl) (by rw [show clamp8 4=4 from rfl,show clamp8 2=2 from rfl];simp [putB_length]) (by show 2≤1000000;decide))) ?_;rintro _ _ ⟨rfl,rfl⟩
 refine Z7 ?_
 refine Z18 ?_
 exact px_rv1 rfl (rv_cella 0 ag_35 rfl rfl (rootC_take' _) (by simp [rootC_len])) (fun _ s=>(((s.del 2).del 1).del 0)) ⟨by unfold lotR boardT;rw [show clamp8 4=4 from rfl,show clamp8 2=2 from rfl];simp [List.append_assoc],rfl⟩
theorem Members_calls {w0 w:World} {l:List HProp} (ao:Option Addr) (c:Nat) (xs:List Val) (n1 n2 n3 n4 n5 n6 n7 n8 n9 n10 n11:Int) (slot:Int) (hs:Sat w0 w (l)) (h0:0≤slot∧slot≤1073741824) (h2:1≤n2∧n2≤16∧n2≤xs.length) (hx:1≤xs.length∧xs.length≤64) (hr:Rds w0 l encVal ao xs) :
  Calls Tryz.prog 160 #[.agg (cfgC ⟨⟨ao,xs.length,c⟩,n1,n2,n3,n4,n5,n6,n7,n8,n9,n10,n11⟩).toArray,.int .i64 slot] w (Ret w0 fun v l'=>∃ a2 c2,v=.slice a2 (memI xs.length slot n2).length c2∧l'=Row 3 encI64 (.slice a2 (memI xs.length slot n2).length c2) (memI xs.length slot n2)::l):=by
 obtain ⟨jm,hjm⟩:∃ jm:Nat,n2=(jm:Int):=⟨n2.toNat,by omega⟩
 refine calls_enter Tryz.func160 rfl rfl rfl hs ?_
 refine Z5 ?_;intro bx1
 refine R8 ?_
 refine ols 12 rfl ?_ ?_
 ·intro hb1 hp1
  exact Z58
 intro hb1 hp1
 refine Zv ?_
 refine Z3r ?_
 refine Zf ?_
 refine Z8 ?_ ?_
 ·intro hb2 hp2
  exact Z5g
 intro hb2 hp2
 refine R9 ?_
 refine oq (op_ld 0 sc_22 rfl rfl (show (cfgC _).toArray[0]? = some (.slice ao xs.length c) from cfgC_a0 _)) ?_
 refine Z2d ?_
 refine R4 ?_
 refine cd_imp (fun _ s=>Sat.rowNil (E:=encSeatR) (e:=305) s) ?_
 refine cd_loop2 (α:=Nat×Option Addr×Nat) [(5,6),(19,30)] (fun x=>[(5,.slice x.2.1 (seatsL slot x.1).length x.2.2),(19,.int .i64 (x.1:Int))]) (fun x=>Row 305 encSeatR (.slice x.2.1 (seatsL slot x.1).length x.2.2) (seatsL slot x.1)::Blk bx1 (.cells (cfgC ⟨⟨ao,xs.length,c⟩,n1,n2,n3,n4,n5,n6,n7,n8,n9,n10,n11⟩).toArray 24 (0,0))::l) (fun x=>x.1≤xs.length) (fun x=>xs.length-x.1) (0,none,0) (Nat.zero_le _) ⟨rfl,rfl,trivial⟩ (fun _ s=>s) ?_
 rintro ⟨i,b1,d1⟩ hi f;(try dsimp only at hi ⊢)
 refine Z3 ?_ ?_
 ·intro hb3 hp3
  have hi1:i<xs.length:=by omega
  refine R13 ?_
  refine oi (os_call cb_183 rfl (fun w s=>Lot_calls _ _  s (by omega))) ?_;rintro _ l ⟨rfl,rfl⟩
  refine R1 ?_
  refine oq (op_build (L:=seatRC _) (vs:=[(0,.agg (rootC _).toArray),(1,.int _ _)]) bB_305 rfl ⟨⟨by simp [Value.cells,rootC_len],by rw [seatRC_len];rfl⟩,⟨rfl,by rw [seatRC_len];rfl⟩,trivial⟩ ((seatRC_b0 _ _ _).trans ((seatRC_b1 _ _ _).trans rfl))) ?_
  refine oi (os_bslice (E:=encSeatR) [_] (ys:=[_]) sB_302 zv_305 rfl rfl rfl rfl (by decide)) ?_;rintro _ _ ⟨ao1,rfl,rfl⟩
  refine Z2 ?_
  refine oi (os_append (E:=encSeatR) rfl sB_302 zv_305 rfl rfl rfl (fun w s=>(rds_row 1 rfl rfl) [] w s) rfl (by rw [seatsL_len];simp;omega) (by unfold maxLen;rw [seatsL_len];simp;omega)) ?_;rintro _ _ ⟨ao2,ac2,rfl,rfl⟩
  refine R8 ?_
  have e1:=seatsL_succ slot i
  refine Zaz ?_
  exact Z0
 intro hb3 hp3
 have hie:i=xs.length:=by omega
 rw [hie]
 refine R7 ?_
 refine oi (os_call cb_184 rfl (fun w s=>SortS_calls _ _ _  s (by (try simp only [seatsL_len]);omega))) ?_;rintro _ _ ⟨ds2,hds2,hdo2,rfl,rfl⟩;have hdl:=hds2.length_eq;rw [seatsL_len] at hdl
 refine R10 ?_
 refine oq (op_ld 1 sc_3 rfl rfl (show (cfgC _).toArray[2]? = some (.int .i64 n2) from cfgC_a2 _)) ?_
 refine oq (op_maxe (c:=n2) rfl rfl (by split<;>omega)) ?_
 refine R1 ?_
 refine oq (op_len_slice Tryz.underlying302 rfl) ?_
 refine oq (op_mine (c:=(jm:Int)) rfl rfl (by rw [seatsL_len];split<;>omega)) ?_
 refine oi (os_slicerow_to jm sB_302 rfl rfl rfl (by rw [seatsL_len,hdl]) (by rw [seatsL_len];omega)) ?_;rintro _ _ ⟨rfl,rfl⟩
 refine oq (op_len_slice Tryz.underlying302 rfl) ?_
 refine R4 ?_
 refine Z72 ?_
 refine cd_loop2 (α:=Nat×Option Addr×Nat) [(7,7),(9,9),(42,51)] (fun x=>[(7,.slice x.2.1 (((ds2.take jm).take x.1).map (·.who)).length x.2.2),(42,.int .i64 (x.1:Int))]) (fun x=>Row 3 encI64 (.slice x.2.1 (((ds2.take jm).take x.1).map (·.who)).length x.2.2) (((ds2.take jm).take x.1).map (·.who))::Row 305 encSeatR (.slice b1 (ds2.take jm).length d1) (ds2.take jm)::l) (fun x=>x.1≤(ds2.take jm).length) (fun x=>(ds2.take jm).length-x.1) (0,none,0) (Nat.zero_le _) ⟨rfl,rfl,trivial⟩ (fun _ s=>(s.del 2)) ?_
 rintro ⟨q,b3,d3⟩ hq f;(try dsimp only at hq ⊢)
 refine Z3 ?_ ?_
 ·intro hb4 hp4
  have hq1:q<(ds2.take jm).length:=by omega
  have htl:(ds2.take jm).length≤ds2.length:=by rw [List.length_take];omega
  refine R5 ?_
  refine oq (op_index q sB_302 rfl rfl rfl (rds_row 1 rfl rfl) rfl (by omega)) ?_
  refine oq (op_ldaw (L:=seatRC _) ag_305 (rds_row 1 rfl rfl) rfl (by omega) rfl (seatRC_ta _)) ?_
  refine oi (os_alloc (cs:=(seatRC SeatR.zero).toArray) zB_305 (by kernel_rfl)) ?_;rintro _ _ ⟨bx2,rfl,rfl⟩
  refine oN (os_storew (seatRC _) ag_305 rfl rfl (seatRC_len _) (seatRC_one _) (by simp [seatRC_len]) (Free.zero _)) ?_;rintro _ _ ⟨rfl,rfl⟩
  refine R6 ?_
  refine Z4k ?_;intro ao3
  refine Z7 ?_
  refine oi (os_append (E:=encI64) rfl sB_39 zv_3 rfl rfl rfl (fun w s=>(rds_row 1 rfl rfl) [] w s) rfl (by simp;omega) (by unfold maxLen;simp;omega)) ?_;rintro _ _ ⟨ao4,ac4,rfl,rfl⟩
  refine R8 ?_
  have e1:(((ds2.take jm).take q).map (·.who))++[((ds2.take jm)[q]'hq1).who]=(((ds2.take jm).take (q+1)).map (·.who)):=by rw [List.take_succ_eq_append_getElem hq1,List.map_append];rfl
  refine px_loop2 (q+1,ao4,ac4) (by omega) (by (try dsimp only);omega) ⟨congrArg (fun q=>Value.slice ao4 (List.length q) ac4) e1,congrArg (Value.int .i64) (by simp),trivial⟩ ?_ (fun _ s=>(by (try dsimp only);rw [←e1];exact ((s.del 2).del 1)))
  exact Z0
 intro hb4 hp4
 have hqe:q=(ds2.take jm).length:=by omega
 rw [hqe]
 refine R11 ?_
 have hmi:(((ds2.take jm).take (ds2.take jm).length).map (·.who))=memI xs.length slot n2:=by rw [List.take_length,sorted_take hds2 hdo2 jm (by omega),hjm];rfl
 rw [hmi]
 exact Z9u
end Go.SL
