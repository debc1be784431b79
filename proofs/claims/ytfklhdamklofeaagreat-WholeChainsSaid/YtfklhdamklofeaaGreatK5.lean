import Derived.Shelf.SlSortCmp.NoneTotal
import Derived.Test.YtfklhdamklofeaaGreatProg
import Derived.Test.YtfklhdamklofeaaGreatK4
set_option linter.unusedVariables false
set_option linter.unusedSimpArgs false
set_option linter.unusedSectionVars false
set_option maxHeartbeats 1000000
set_option maxRecDepth 100000
namespace Go.SL
open Go.Proofs
theorem keyed_int:Go.Maps.Keyed Tryz.prog 3:=Go.Maps.int_keyed Tryz.underlying3
theorem EVI_inj (a b:Int) (h:EVI a=EVI b):a=b:=by unfold EVI at h;injection h
theorem keyokI {V:Type} {m:Int} (hm:I64 m):KeyOK Tryz.prog 3 EVI ([]:List (Int×V)) m :=
 ⟨keyed_int,fun a ha=>(by rcases ha with rfl | ha;exact ⟨_,Go.Maps.keyOf_int_mk Tryz.underlying3 (by unfold I64 at hm;simp [Lit.wf,IntKind.min,IntKind.max,IntKind.signed,IntKind.bits];omega)⟩;cases ha),EVI_inj,by simp⟩
theorem es_nil {es:Array MapEntry} (h:es.toList.map (fun e:MapEntry=>(e.key,e.val))=([]:List (Int×Int)).map (fun p=>(EVI p.1,EVI p.2))):es.toList=[]:=List.map_eq_nil_iff.1 h
theorem PeIn_calls {w0 w:World} {l:List HProp} (n top:Int) (hs:Sat w0 w (l)) (h:1≤n∧n≤top) :
  Calls Tryz.prog 99 #[.int .i64 n,.int .i64 top] w (Ret w0 fun v l'=>v=.bool true∧l'=l):=by
 refine calls_enter Tryz.func99 rfl rfl rfl hs ?_
 refine R8 ?_
 refine ols 7 rfl ?_ ?_
 ·intro hb1 hp1
  refine Zv ?_
  refine Zv ?_
  refine Z6g ?_
  refine Zq ?_
  refine R4 ?_
  exact px_ret1 rfl (v:=.bool _) rfl (fun _ s=>s) ⟨congrArg Value.bool (decide_eq_true (by omega)),rfl⟩
 intro hb1 hp1
 exact Z6k
theorem PeNew_calls {w0 w:World} {l:List HProp} (most ban decay:Int) (hs:Sat w0 w (l)) (h1:1≤most∧most≤16) (h2:1≤ban∧ban≤1048576) (h3:1≤decay∧decay≤1048576) :
  Calls Tryz.prog 48 #[.int .i64 most,.int .i64 ban,.int .i64 decay] w (Ret w0 fun v l'=>∃ pe mb,v=.pointer (some ⟨pe,0,none⟩)∧l'=Blk pe (.cells #[.map (some mb),.int .i64 most,.int .i64 ban,.int .i64 decay,.int .i64 0] 157 (0,0))::MapO EVI EVI mb ([]:List (Int×Int))::l):=by
 refine calls_enter Tryz.func48 rfl rfl rfl hs ?_
 refine R5 ?_
 refine Z5f ?_
 refine R4 ?_
 refine Z4r ?_
 refine R1 ?_
 refine oi (os_callv (C:=[]) (vs:=[_,_]) cb_99 rfl rfl (fun w s=>PeIn_calls (top:=16) _  s (by omega))) ?_;rintro _ _ ⟨rfl,rfl⟩
 refine R2 ?_
 refine ol_q (wn_some rfl rfl rfl rfl rfl) (op_move (v:=.func _ _ _) rfl) rfl ?_
 refine Z3f ?_
 refine Zad ?_
 refine Z6l ?_
 refine Z1n ?_
 refine R1 ?_
 refine ol_q (wn_some rfl rfl rfl rfl rfl) (op_move (v:=.func _ _ _) rfl) rfl ?_
 refine Z3f ?_
 refine Zad ?_
 refine Z6l ?_
 refine Z1n ?_
 refine Zi ?_
 refine R3 ?_
 refine oi (os_makeMapO EVI EVI) ?_;rintro _ _ ⟨mp1,rfl,rfl⟩
 refine R3 ?_
 refine oq (op_build (L:=[_,_,_,_,_]) (vs:=[(0,.map _),(1,.int _ _),(2,.int _ _),(3,.int _ _)]) bB_157 rfl ⟨⟨rfl,rfl⟩,⟨rfl,rfl⟩,⟨rfl,rfl⟩,⟨rfl,rfl⟩,trivial⟩ rfl) ?_
 refine Z19 ?_;intro bx2
 exact Za9
theorem PeScore_calls {w0 w:World} {l:List HProp} (pe mb:Nat) (most ban decay:Int) (peer:Int) (hs:Sat w0 w ((Blk pe (.cells #[.map (some mb),.int .i64 most,.int .i64 ban,.int .i64 decay,.int .i64 0] 157 (0,0)))::(MapO EVI EVI mb ([]:List (Int×Int)))::l)) (hpe:I64 peer) :
  Calls Tryz.prog 130 #[.pointer (some ⟨pe,0,none⟩),.int .i64 peer] w (Ret w0 fun v l'=>v=.int .i64 0∧l'=Blk pe (.cells #[.map (some mb),.int .i64 most,.int .i64 ban,.int .i64 decay,.int .i64 0] 157 (0,0))::MapO EVI EVI mb ([]:List (Int×Int))::l):=by
 refine calls_enter Tryz.func130 rfl rfl rfl hs ?_
 refine R7 ?_
 refine oq (op_eqnil Tryz.underlying78 rfl rfl) ?_
 refine Zi ?_
 refine R8 ?_
 refine oq (op_lookup1N 1 peer Tryz.underlying155 zB_3 (keyokI hpe) rfl rfl rfl rfl) ?_
 refine R4 ?_
 exact Z2p
theorem PeBanned_calls {w0 w:World} {l:List HProp} (pe mb:Nat) (most ban decay:Int) (peer:Int) (hs:Sat w0 w ((Blk pe (.cells #[.map (some mb),.int .i64 most,.int .i64 ban,.int .i64 decay,.int .i64 0] 157 (0,0)))::(MapO EVI EVI mb ([]:List (Int×Int)))::l)) (hpe:I64 peer) (h2:1≤ban∧ban≤1048576) :
  Calls Tryz.prog 84 #[.pointer (some ⟨pe,0,none⟩),.int .i64 peer] w (Ret w0 fun v l'=>v=.bool false∧l'=Blk pe (.cells #[.map (some mb),.int .i64 most,.int .i64 ban,.int .i64 decay,.int .i64 0] 157 (0,0))::MapO EVI EVI mb ([]:List (Int×Int))::l):=by
 refine calls_enter Tryz.func84 rfl rfl rfl hs ?_
 refine R5 ?_
 refine Zo ?_
 refine R1 ?_
 refine rg_q (wn_none rfl) (op_nenil Tryz.underlying78 rfl rfl) rfl rfl ?_
 refine R1 ?_
 refine rg_q (wn_some rfl rfl rfl rfl rfl) (op_move (v:=.pointer _) rfl) rfl rfl ?_
 refine rg_q (wn_some rfl rfl rfl rfl rfl) (op_move (v:=.int _ _) rfl) rfl rfl ?_
 refine rg_soft (wn_some rfl rfl rfl rfl rfl) cb_130 ci_130 (fun M=>os_back (os_pull1 (os_pull1 (os_call cb_130 rfl (fun w s=>PeScore_calls _ _ _ _ _ _  s (by assumption))))) (fun _ s=>s)) ?_
 refine rg_q (wn_some rfl rfl rfl rfl rfl) (op_move (v:=.pointer _) rfl) rfl rfl ?_
 refine rg_q (wn_some rfl rfl rfl rfl rfl) (op_nilck rfl) rfl rfl ?_
 refine rg_q (wn_some rfl rfl rfl rfl rfl) (op_field fld_157_2 rfl) rfl rfl ?_
 refine rg_q (wn_some rfl rfl rfl rfl rfl) (op_ld 0 sc_3 rfl rfl rfl) rfl rfl ?_
 refine rg_q (wn_some rfl rfl rfl rfl rfl) (op_neg rfl) rfl rfl ?_
 refine rg_q (wn_some rfl rfl rfl rfl rfl) (op_le rfl rfl) rfl rfl ?_
 refine rg_q (wn_none rfl) (op_pick_t (v:=.bool _) rfl rfl rfl) rfl rfl ?_
 refine Z1z ?_
 refine R1 ?_
 exact px_ret1 rfl (v:=.bool _) rfl (fun _ s=>s) ⟨congrArg Value.bool (decide_eq_false (by rw [wrap_i64 (by omega) (by omega)];omega)),rfl⟩
theorem PeFail_calls {w0 w:World} {l:List HProp} (pe mb:Nat) (most ban decay:Int) (peer k:Int) (hs:Sat w0 w ((Blk pe (.cells #[.map (some mb),.int .i64 most,.int .i64 ban,.int .i64 decay,.int .i64 0] 157 (0,0)))::(MapO EVI EVI mb ([]:List (Int×Int)))::l)) (h:k≤0) :
  Calls Tryz.prog 40 #[.pointer (some ⟨pe,0,none⟩),.int .i64 peer,.int .i64 k] w (Ret w0 fun v l'=>v=.tuple #[]∧l'=Blk pe (.cells #[.map (some mb),.int .i64 most,.int .i64 ban,.int .i64 decay,.int .i64 0] 157 (0,0))::MapO EVI EVI mb ([]:List (Int×Int))::l):=by
 refine calls_enter Tryz.func40 rfl rfl rfl hs ?_
 refine R3 ?_
 refine oq (op_eqnil Tryz.underlying78 rfl rfl) ?_
 refine R1 ?_
 refine Z3f ?_
 refine ol_q (wn_some rfl rfl rfl rfl rfl) (op_le rfl rfl) rfl ?_
 refine Z1n ?_
 refine Z8 ?_ ?_
 ·intro hb1 hp1
  refine R2 ?_
  exact px_ret0 rfl (fun _ s=>s) ⟨rfl,rfl⟩
 intro hb1 hp1
 exact Z6k
theorem PeTick_calls {w0 w:World} {l:List HProp} (pe mb:Nat) (most ban decay:Int) (hs:Sat w0 w ((Blk pe (.cells #[.map (some mb),.int .i64 most,.int .i64 ban,.int .i64 decay,.int .i64 0] 157 (0,0)))::(MapO EVI EVI mb ([]:List (Int×Int)))::l))  :
  Calls Tryz.prog 27 #[.pointer (some ⟨pe,0,none⟩)] w (Ret w0 fun v l'=>v=.tuple #[]∧l'=Blk pe (.cells #[.map (some mb),.int .i64 most,.int .i64 ban,.int .i64 decay,.int .i64 0] 157 (0,0))::MapO EVI EVI mb ([]:List (Int×Int))::l):=by
 refine calls_enter Tryz.func27 rfl rfl rfl hs ?_
 refine R3 ?_
 refine oq (op_eqnil Tryz.underlying78 rfl rfl) ?_
 refine Zi ?_
 refine R2 ?_
 refine cd_pull1 ?_
 refine cd_mapopen ?_;intro es ck hes hbn
 have hes0:=es_nil hes
 refine R5 ?_
 refine oi (os_range Tryz.underlying155 rfl) ?_;rintro _ _ ⟨it1,rfl,rfl⟩
 refine R3 ?_
 refine cd_loop2 (α:=Unit) [(2,3),(11,34)] (fun x=>[]) (fun x=>Blk mb (.map es ck)::Blk it1 (.mapIter (some mb) ck #[] ck)::Blk pe (.cells #[.map (some mb),.int .i64 most,.int .i64 ban,.int .i64 decay,.int .i64 0] 157 (0,0))::l) (fun x=>True) (fun x=>0) () trivial trivial (fun _ s=>(((s.pull 2).pull 1).pull 2)) ?_
 rintro ⟨⟩ _ f;(try dsimp only)
 refine R1 ?_
 refine Z2 ?_
 refine Z2 ?_
 refine oi (os_next hbn rfl) ?_;rintro _ _ (⟨rfl,hall,rfl⟩ | ⟨e,he,hse,rfl,rfl⟩)
 ·
  refine R4 ?_
  refine Z23 ?_
  refine R4 ?_
  exact px_end0 rfl (fun _ s=>((Sat.mapMk (s.del 1) hbn hes).pull 1)) ⟨rfl,rfl⟩
 exact absurd (show e∈[] from hes0 ▸ he) (by simp)
open Go.Sort
theorem grow_of {W w':World} (s:Sat W w' [Old W []]):∃ q os',w'=grow (W.drewN q) os':=by
  have hb:=s.below
  obtain ⟨_,hd⟩:=s.size
  refine ⟨w'.drawn-W.drawn,w'.heap.extract W.heap.size w'.heap.size,?_⟩
  obtain ⟨h1,h2,h3,h4,h5⟩:=hb
  have hh:w'.heap=W.heap++w'.heap.extract W.heap.size w'.heap.size:=by
    apply Array.ext_getElem?
    intro k
    rcases Nat.lt_or_ge k W.heap.size with hk | hk
    · rw [Array.getElem?_append_left hk,h5 k hk]
    · rw [Array.getElem?_append_right hk,Array.getElem?_extract]
      rcases Nat.lt_or_ge k w'.heap.size with hk2 | hk2
      · rw [if_pos (by omega)];congr 1;omega
      · rw [if_neg (by omega),Array.getElem?_eq_none hk2]
  unfold grow World.drewN
  cases w' with
  | mk hp tp dr os out =>
    cases W with
    | mk hp2 tp2 dr2 os2 out2 =>
      dsimp only at *
      subst h1 h2 h3
      congr 1
      omega
section
variable {α:Type} [Inhabited α] {E:Enc α} {P:Program} {w0 w:World} {l:List HProp}
theorem flat_eq (d:List α):flatK E.cells E.size d.toArray=(E.flat d).toArray:=by
  apply Array.ext_getElem?
  intro t
  rcases Nat.lt_or_ge t (d.length*E.size) with h | h
  · have hp:=E.pos
    have h1:t / E.size<d.length:=Nat.div_lt_of_lt_mul (by rwa [Nat.mul_comm])
    have h2:t % E.size<E.size:=Nat.mod_lt _ hp
    have h3:t / E.size*E.size+t % E.size=t:=by rw [Nat.mul_comm];exact Nat.div_add_mod _ _
    have h4:=E.flat_get d (t / E.size) (t % E.size) h2 h1
    rw [h3] at h4
    rw [show (E.flat d).toArray[t]? = (E.cells d[t / E.size])[t % E.size]? from by rw [List.getElem?_toArray];exact h4]
    have h5:t % E.size<(E.cells d[t / E.size]).length:=by rw [E.len];exact h2
    rw [List.getElem?_eq_getElem h5]
    unfold flatK
    rw [Array.getElem?_map,Array.getElem?_range,if_pos (by simpa using h)]
    simp [h1,h5]
  · rw [Array.getElem?_eq_none (by rw [size_flatK];simpa using h),Array.getElem?_eq_none (by simp [E.flat_length];exact h)]
theorem perm_whole {d d':Array α} (h:PermIn 0 d.size d d'):d'.toList.Perm d.toList:=by
  obtain ⟨h1,_,h2⟩:=h
  have e1:d'.extract 0 d.size=d':=by rw [←h1];exact Array.extract_size
  rw [e1,Array.extract_size] at h2
  exact h2
theorem sort_rows (e:TypeId) {ρ:Go.Shelf.Ren} (L:Go.Proofs.SlLaysF0.n6 P ρ) (aE:∀ w,(isAgg (ρ.t 24)).run P w=.ok true w) (zE:∀ w,(Go.sizeOf (ρ.t 24)).run P w=.ok E.size w) (cf:α→α→Int) (hO:SWO (ltOf cf)) (g:Nat)
    (eg:∀ args w,(callFunc g args).run P w=.ok (.enter g args) w) (hc:∀ (W:World) (x y:α),Calls P g #[.agg (E.cells x).toArray,.agg (E.cells y).toArray] W (Ret W fun v l'=>v=.int .i64 (cf x y)∧l'=[Old W []]))
    {ao:Option Addr} {c:Nat} {d:List α} (s:Sat w0 w (Row e E (.slice ao d.length c) d::l)) (hd:d.length<4611686018427387904) :
    Calls P (ρ.f 6) #[.slice ao d.length c,.func (.func g) #[] #[]] w (Ret w0 fun v l'=>∃ d2:List α,d2.Perm d∧(∀ i j (hi:i<d2.length) (hj:j<d2.length),i<j→cf d2[j] d2[i]<0→False)∧v=.tuple #[]∧l'=Row e E (.slice ao d.length c) d2::l):=by
  rcases s.rowOpen with ⟨hv,hn,s1⟩ | ⟨b,off,cap,cur,fr,hv,h2,h3,h4,h5,hf,s1⟩
  · subst hn
    refine (AnyF.slices_SortFunc_none L ao c (.func (.func g) #[] #[]) w).mono fun e' w' ⟨he,hw⟩=>?_
    subst hw
    exact ⟨_,_,he,⟨[],List.Perm.refl _,fun i j hi _ _ _=>absurd hi (Nat.not_lt_zero _),rfl,rfl⟩,s⟩
  · injection hv with hao _ hcc
    subst hao hcc
    have hblk:=s1.blk
    have hcell:∀ j,j<(E.flat d).length→cur[off+j]? = (E.flat d)[j]?:=fun j hj=>by
      have h6:((cur.toList.drop off).take (d.length*E.size))[j]? = (E.flat d)[j]?:=congrArg (fun q:List Value=>q[j]?) h5
      have hj2:j<d.length*E.size:=by rwa [E.flat_length] at hj
      rw [List.getElem?_take_of_lt hj2,List.getElem?_drop,Array.getElem?_toList] at h6
      exact h6
    have hfit:off+(E.flat d).length≤cur.size:=by
      rw [E.flat_length]
      have:=Nat.mul_le_mul_right E.size h2
      omega
    have hH:HoldsK E.cells E.size w b off d.toArray:=by
      unfold HoldsK
      rw [flat_eq]
      intro j hj
      have hj':j<(E.flat d).length:=by simpa using hj
      refine ⟨?_,hf.frozen hblk (by omega)⟩
      rw [cell_of_row w b (off+j) cur e fr hblk,hcell j hj',List.getElem?_eq_getElem hj']
      simp [hj']
    have hcmp:CmpLays P g #[] E.cells E.size cf b off d.toArray.size w:=fun m os dk _ x y=>(hc _ x y).mono fun e' w' ⟨v,l',he,⟨hv,hl⟩,s'⟩=>by
      subst hv hl
      exact ⟨he,grow_of s'⟩
    have hm:=AnyQ.slices_SortFunc L E.size aE zE E.cells E.len (fun x v hv=>E.one x v hv) cf hO g #[] b off c d.toArray w eg hcmp hH (Array.getElem?_eq_some_iff.1 hblk).1 (by simpa using hd)
    refine hm.mono fun e' w' ⟨he,d',n,os,hp,hs,hw⟩=>?_
    have hperm:d'.toList.Perm d:=by simpa using perm_whole hp
    have hlen:d'.toList.length=d.length:=hperm.length_eq
    refine ⟨_,_,he,⟨d'.toList,hperm,fun i j hi hj hij hlt=>?_,rfl,rfl⟩,?_⟩
    · have h6:=hs i j (Nat.zero_le _) hij (by simpa [←hlen] using hj)
      unfold ltOf at h6
      have hi':i<d'.size:=by simpa using hi
      have hj':j<d'.size:=by simpa using hj
      rw [getElem!_pos d' j hj',getElem!_pos d' i hi'] at h6
      simp at h6
      simp at hlt
      omega
    · subst hw
      have hfl:flatK E.cells E.size d'=(E.flat d'.toList).toArray:=by
        have:=flat_eq (E:=E) d'.toList
        simpa using this
      have s2:Sat w0 (putRowK E.cells E.size (Sort.ahead w n) b off d') (Blk b (.cells (putCells id off (flatK E.cells E.size d') cur) e fr)::l):=by
        refine (s1.drewN n).upd (w':=putRowK E.cells E.size (Sort.ahead w n) b off d') rfl rfl rfl ?_ (fun k _ hk=>?_)
        · show (w.heap.modify b _)[b]? = _
          rw [Array.getElem?_modify,if_pos rfl,hblk];rfl
        · show (w.heap.modify b _)[k]? = _
          rw [Array.getElem?_modify,if_neg (Ne.symm hk)];rfl
      have s3:Sat w0 (sortWorldK E.cells E.size w b off n d' os) (Blk b (.cells (putCells id off (flatK E.cells E.size d') cur) e fr)::l):=by
        refine s2.keep rfl rfl rfl (fun k hk=>?_)
        show (_++os)[k]? = _
        exact Array.getElem?_append_left hk
      have hsz:(putCells id off (flatK E.cells E.size d') cur).size=cur.size:=by simp [putCells]
      rw [←hlen]
      refine s3.rowMk (E:=E) (xs:=d'.toList) (by rw [hsz];exact hf) (by rw [hlen];exact h2) h3 (by rw [hsz];exact h4) ?_
      have hfl2:(E.flat d'.toList).length=(E.flat d).length:=by rw [E.flat_length,E.flat_length,hlen]
      apply List.ext_getElem?
      intro j
      rw [←E.flat_length]
      rcases Nat.lt_or_ge j (E.flat d'.toList).length with hj | hj
      · rw [List.getElem?_take_of_lt hj,List.getElem?_drop,Array.getElem?_toList]
        unfold putCells
        rw [Array.getElem?_mapIdx,Array.getElem?_eq_getElem (show off+j<cur.size by omega),Option.map_some,if_pos ⟨Nat.le_add_right _ _,by rw [hfl];simpa using hj⟩,Nat.add_sub_cancel_left,hfl]
        rw [List.getElem?_eq_getElem hj]
        simp [hj]
      · rw [List.getElem?_eq_none (by rw [List.length_take];omega),List.getElem?_eq_none hj]
end
end Go.SL
namespace Go.Proofs
open Go.Shelf
def Tryz.sortI_ren:Go.Shelf.Ren:=⟨fun | 6=>155 | 15=>181 | 14=>182 | 28=>207 | 29=>208 | 20=>209 | 21=>210 | 22=>211 | 23=>212 | 24=>213 | 25=>214 | 26=>215 | 27=>216 | 46=>230 | 47=>225 | 48=>226 | 49=>231 | 50=>232 | 57=>243 | n=>n,fun | 22=>161 | 24=>159 | 25=>269 | 3=>3 | 39=>25 | 0=>0 | 53=>145 | 55=>41 | 4=>4 | 46=>318 | 45=>317 | 50=>104 | 5=>5 | 9=>9 | 66=>337 | 70=>341 | 76=>351 | 77=>352 | n=>n,fun | n=>n⟩
theorem Tryz.sortI:Go.Proofs.SlLaysF0.n6 Tryz.prog Tryz.sortI_ren:={
  mixed:=by kernel_rfl
  f6:=⟨Tryz.f155.name,by decide,Tryz.func155.trans (congrArg some (by kernel_rfl))⟩
  f14:=⟨Tryz.f182.name,by decide,Tryz.func182.trans (congrArg some (by kernel_rfl))⟩
  f15:=Tryz.func181.trans (congrArg some (by kernel_rfl))
  f20:=⟨Tryz.f209.name,by decide,Tryz.func209.trans (congrArg some (by kernel_rfl))⟩
  f21:=⟨Tryz.f210.name,by decide,Tryz.func210.trans (congrArg some (by kernel_rfl))⟩
  f22:=⟨Tryz.f211.name,by decide,Tryz.func211.trans (congrArg some (by kernel_rfl))⟩
  f23:=⟨Tryz.f212.name,by decide,Tryz.func212.trans (congrArg some (by kernel_rfl))⟩
  f24:=⟨Tryz.f213.name,by decide,Tryz.func213.trans (congrArg some (by kernel_rfl))⟩
  f25:=⟨Tryz.f214.name,by decide,Tryz.func214.trans (congrArg some (by kernel_rfl))⟩
  f26:=⟨Tryz.f215.name,by decide,Tryz.func215.trans (congrArg some (by kernel_rfl))⟩
  f27:=⟨Tryz.f216.name,by decide,Tryz.func216.trans (congrArg some (by kernel_rfl))⟩
  f28:=Tryz.func207.trans (congrArg some (by kernel_rfl))
  f29:=Tryz.func208.trans (congrArg some (by kernel_rfl))
  f46:=⟨Tryz.f230.name,by decide,Tryz.func230.trans (congrArg some (by kernel_rfl))⟩
  f47:=Tryz.func225.trans (congrArg some (by kernel_rfl))
  f48:=Tryz.func226.trans (congrArg some (by kernel_rfl))
  f49:=⟨Tryz.f231.name,by decide,Tryz.func231.trans (congrArg some (by kernel_rfl))⟩
  f50:=⟨Tryz.f232.name,by decide,Tryz.func232.trans (congrArg some (by kernel_rfl))⟩
  f57:=⟨Tryz.f243.name,by decide,Tryz.func243.trans (congrArg some (by kernel_rfl))⟩
  t0:=Tryz.underlying0
  a0:=Tryz.isAgg0
  z0:=Tryz.sizeOf0
  v0:=Tryz.zeroValue0
  t3:=Tryz.underlying3
  a3:=Tryz.isAgg3
  z3:=Tryz.sizeOf3
  v3:=Tryz.zeroValue3
  t4:=Tryz.underlying4
  a4:=Tryz.isAgg4
  z4:=Tryz.sizeOf4
  v4:=Tryz.zeroValue4
  t5:=Tryz.underlying5
  a5:=Tryz.isAgg5
  z5:=Tryz.sizeOf5
  v5:=Tryz.zeroValue5
  t9:=Tryz.underlying9
  a9:=Tryz.isAgg9
  z9:=Tryz.sizeOf9
  v9:=Tryz.zeroValue9
  t22:=Tryz.underlying161
  a22:=Tryz.isAgg161
  z22:=Tryz.sizeOf161
  v22:=Tryz.zeroValue161
  t25:=Tryz.underlying269
  a25:=Tryz.isAgg269
  z25:=Tryz.sizeOf269
  v25:=Tryz.zeroValue269
  t39:=Tryz.underlying25
  a39:=Tryz.isAgg25
  z39:=Tryz.sizeOf25
  v39:=Tryz.zeroValue25
  t45:=Tryz.underlying317
  a45:=Tryz.isAgg317
  z45:=Tryz.sizeOf317
  v45:=Tryz.zeroValue317
  t46:=Tryz.underlying318
  a46:=Tryz.isAgg318
  z46:=Tryz.sizeOf318
  v46:=Tryz.zeroValue318
  t50:=Tryz.underlying104
  a50:=Tryz.isAgg104
  z50:=Tryz.sizeOf104
  v50:=Tryz.zeroValue104
  t53:=Tryz.underlying145
  a53:=Tryz.isAgg145
  z53:=Tryz.sizeOf145
  v53:=Tryz.zeroValue145
  t55:=Tryz.underlying41
  a55:=Tryz.isAgg41
  z55:=Tryz.sizeOf41
  v55:=Tryz.zeroValue41
  t66:=Tryz.underlying337
  a66:=Tryz.isAgg337
  z66:=Tryz.sizeOf337
  v66:=Tryz.zeroValue337
  t70:=Tryz.underlying341
  a70:=Tryz.isAgg341
  z70:=Tryz.sizeOf341
  v70:=Tryz.zeroValue341
  t76:=Tryz.underlying351
  a76:=Tryz.isAgg351
  z76:=Tryz.sizeOf351
  v76:=Tryz.zeroValue351
  t77:=Tryz.underlying352
  a77:=Tryz.isAgg352
  z77:=Tryz.sizeOf352
  v77:=Tryz.zeroValue352 }
def Tryz.sortS_ren:Go.Shelf.Ren:=⟨fun | 6=>184 | 15=>181 | 14=>217 | 28=>207 | 29=>208 | 20=>233 | 21=>234 | 22=>235 | 23=>236 | 24=>237 | 25=>238 | 26=>239 | 27=>240 | 46=>244 | 47=>225 | 48=>226 | 49=>245 | 50=>246 | 57=>247 | n=>n,fun | 22=>302 | 24=>305 | 25=>307 | 3=>3 | 39=>25 | 0=>0 | 53=>145 | 55=>41 | 4=>4 | 46=>318 | 45=>317 | 50=>104 | 5=>5 | 9=>9 | 66=>337 | 70=>341 | 76=>351 | 77=>352 | n=>n,fun | n=>n⟩
theorem Tryz.sortS:Go.Proofs.SlLaysF0.n6 Tryz.prog Tryz.sortS_ren:={
  mixed:=by kernel_rfl
  f6:=⟨Tryz.f184.name,by decide,Tryz.func184.trans (congrArg some (by kernel_rfl))⟩
  f14:=⟨Tryz.f217.name,by decide,Tryz.func217.trans (congrArg some (by kernel_rfl))⟩
  f15:=Tryz.func181.trans (congrArg some (by kernel_rfl))
  f20:=⟨Tryz.f233.name,by decide,Tryz.func233.trans (congrArg some (by kernel_rfl))⟩
  f21:=⟨Tryz.f234.name,by decide,Tryz.func234.trans (congrArg some (by kernel_rfl))⟩
  f22:=⟨Tryz.f235.name,by decide,Tryz.func235.trans (congrArg some (by kernel_rfl))⟩
  f23:=⟨Tryz.f236.name,by decide,Tryz.func236.trans (congrArg some (by kernel_rfl))⟩
  f24:=⟨Tryz.f237.name,by decide,Tryz.func237.trans (congrArg some (by kernel_rfl))⟩
  f25:=⟨Tryz.f238.name,by decide,Tryz.func238.trans (congrArg some (by kernel_rfl))⟩
  f26:=⟨Tryz.f239.name,by decide,Tryz.func239.trans (congrArg some (by kernel_rfl))⟩
  f27:=⟨Tryz.f240.name,by decide,Tryz.func240.trans (congrArg some (by kernel_rfl))⟩
  f28:=Tryz.func207.trans (congrArg some (by kernel_rfl))
  f29:=Tryz.func208.trans (congrArg some (by kernel_rfl))
  f46:=⟨Tryz.f244.name,by decide,Tryz.func244.trans (congrArg some (by kernel_rfl))⟩
  f47:=Tryz.func225.trans (congrArg some (by kernel_rfl))
  f48:=Tryz.func226.trans (congrArg some (by kernel_rfl))
  f49:=⟨Tryz.f245.name,by decide,Tryz.func245.trans (congrArg some (by kernel_rfl))⟩
  f50:=⟨Tryz.f246.name,by decide,Tryz.func246.trans (congrArg some (by kernel_rfl))⟩
  f57:=⟨Tryz.f247.name,by decide,Tryz.func247.trans (congrArg some (by kernel_rfl))⟩
  t0:=Tryz.underlying0
  a0:=Tryz.isAgg0
  z0:=Tryz.sizeOf0
  v0:=Tryz.zeroValue0
  t3:=Tryz.underlying3
  a3:=Tryz.isAgg3
  z3:=Tryz.sizeOf3
  v3:=Tryz.zeroValue3
  t4:=Tryz.underlying4
  a4:=Tryz.isAgg4
  z4:=Tryz.sizeOf4
  v4:=Tryz.zeroValue4
  t5:=Tryz.underlying5
  a5:=Tryz.isAgg5
  z5:=Tryz.sizeOf5
  v5:=Tryz.zeroValue5
  t9:=Tryz.underlying9
  a9:=Tryz.isAgg9
  z9:=Tryz.sizeOf9
  v9:=Tryz.zeroValue9
  t22:=Tryz.underlying302
  a22:=Tryz.isAgg302
  z22:=Tryz.sizeOf302
  v22:=Tryz.zeroValue302
  t25:=Tryz.underlying307
  a25:=Tryz.isAgg307
  z25:=Tryz.sizeOf307
  v25:=Tryz.zeroValue307
  t39:=Tryz.underlying25
  a39:=Tryz.isAgg25
  z39:=Tryz.sizeOf25
  v39:=Tryz.zeroValue25
  t45:=Tryz.underlying317
  a45:=Tryz.isAgg317
  z45:=Tryz.sizeOf317
  v45:=Tryz.zeroValue317
  t46:=Tryz.underlying318
  a46:=Tryz.isAgg318
  z46:=Tryz.sizeOf318
  v46:=Tryz.zeroValue318
  t50:=Tryz.underlying104
  a50:=Tryz.isAgg104
  z50:=Tryz.sizeOf104
  v50:=Tryz.zeroValue104
  t53:=Tryz.underlying145
  a53:=Tryz.isAgg145
  z53:=Tryz.sizeOf145
  v53:=Tryz.zeroValue145
  t55:=Tryz.underlying41
  a55:=Tryz.isAgg41
  z55:=Tryz.sizeOf41
  v55:=Tryz.zeroValue41
  t66:=Tryz.underlying337
  a66:=Tryz.isAgg337
  z66:=Tryz.sizeOf337
  v66:=Tryz.zeroValue337
  t70:=Tryz.underlying341
  a70:=Tryz.isAgg341
  z70:=Tryz.sizeOf341
  v70:=Tryz.zeroValue341
  t76:=Tryz.underlying351
  a76:=Tryz.isAgg351
  z76:=Tryz.sizeOf351
  v76:=Tryz.zeroValue351
  t77:=Tryz.underlying352
  a77:=Tryz.isAgg352
  z77:=Tryz.sizeOf352
  v77:=Tryz.zeroValue352 }
end Go.Proofs
namespace Go.SL
open Go.Proofs
open Go.Sort
instance:Inhabited PItem:=⟨PItem.zero⟩
def cmpI (a b:PItem):Int:=if befI a b=true then -1 else if befI b a=true then 1 else 0
theorem befI_iff {a b:PItem}:befI a b=true↔a.slot<b.slot∨(a.slot=b.slot∧Op.bytesLess a.root.1 b.root.1=true):=by unfold befI;simp
theorem befI_not {a b:PItem}:befI a b=false↔¬ (a.slot<b.slot∨(a.slot=b.slot∧Op.bytesLess a.root.1 b.root.1=true)):=by rw [←befI_iff];simp
theorem blr_ntrans {a b c:Root} (h1:Op.bytesLess a.1 b.1=false) (h2:Op.bytesLess b.1 c.1=false):Op.bytesLess a.1 c.1=false:=by
 cases h:Op.bytesLess a.1 c.1 with
 | false=>rfl
 | true =>
  cases h3:Op.bytesLess c.1 b.1 with
  | true=>rw [bl_trans h h3] at h1;exact h1
  | false =>
   have e:=bl_tri (by rw [b.2,c.2]) h2 h3
   rw [e] at h1
   rw [←h,h1]
theorem lt_cmpI (a b:PItem):ltOf cmpI a b=befI a b:=by
 unfold ltOf cmpI
 cases befI a b<;>cases befI b a<;>rfl
theorem swo_cmpI:SWO (ltOf cmpI) where
 irrefl x:=by rw [lt_cmpI,befI_not];rintro (h | ⟨_,h⟩);omega;rw [bl_irrefl] at h;cases h
 trans x y z h1 h2:=by
  rw [lt_cmpI,befI_iff] at *
  rcases h1 with h1 | ⟨h1,h3⟩<;>rcases h2 with h2 | ⟨h2,h4⟩
  ·left;omega
  ·left;omega
  ·left;omega
  ·right;exact ⟨by omega,bl_trans h3 h4⟩
 ntrans x y z h1 h2:=by
  rw [lt_cmpI,befI_not] at *
  rintro (h | ⟨h,h3⟩)
  ·have e1:¬ x.slot<y.slot:=fun q=>h1 (.inl q)
   have e2:¬ y.slot<z.slot:=fun q=>h2 (.inl q)
   omega
  ·have e1:¬ x.slot<y.slot:=fun q=>h1 (.inl q)
   have e2:¬ y.slot<z.slot:=fun q=>h2 (.inl q)
   have e3:Op.bytesLess x.root.1 y.root.1=false:=by cases q:Op.bytesLess x.root.1 y.root.1 with | false=>rfl | true=>exact absurd (.inr ⟨by omega,q⟩) h1
   have e4:Op.bytesLess y.root.1 z.root.1=false:=by cases q:Op.bytesLess y.root.1 z.root.1 with | false=>rfl | true=>exact absurd (.inr ⟨by omega,q⟩) h2
   rw [blr_ntrans e3 e4] at h3;cases h3
theorem op_eqnilS {P:Program} {w0:World} {n:Nat} {f:Fr} {l:List HProp} {dd:Option Tmp} {ty T T' e:TypeId} {pos:String} {aft:Array Edge} {g:Option (Nat×Bool)} {x y:Operand} {a:Option Addr} {m c:Nat} (hu:P.underlying T=some (.slice e)) (hx:ev f x=.slice a m c) (hy:ev f y=.slice none 0 0):OP P w0 n ⟨dd,.binOp .eql T x y T',ty,pos,aft,g⟩ f l (.bool a.isNone):=fun M A w r s=>by
 simp only [execOp,r.eval,hx,hy,binOp]
 have hq:(Op.equal T (.slice a m c) (.slice none 0 0)).run P w=.ok a.isNone w:=by
  obtain ⟨k,hk⟩:=equal_depth T (.slice a m c) (.slice none 0 0)
  rw [hk]
  unfold Op.equalIn
  cases a<;>simp [run_underlying hu]
 simp [eqGuard,hq]
theorem AllC_calls {w0 w:World} {l:List HProp} (x y:PItem) (hs:Sat w0 w (l))  :
  Calls Tryz.prog 156 #[.agg (pItemC x).toArray,.agg (pItemC y).toArray] w (Ret w0 fun v l'=>v=.int .i64 (cmpI x y)∧l'=l):=by
 refine calls_enter Tryz.func156 rfl rfl rfl hs ?_
 refine Z1s ?_;intro bx1 bx2
 refine R8 ?_
 refine oi (os_call cb_157 rfl (fun w s=>Before_calls _ _  s )) ?_;rintro _ l ⟨rfl,rfl⟩
 refine Z6 ?_ ?_
 ·intro hb1 hp1
  refine R7 ?_
  exact Z8y
 intro hb1 hp1
 refine R3 ?_
 refine oi (os_call cb_157 rfl (fun w s=>Before_calls _ _  s )) ?_;rintro _ l ⟨rfl,rfl⟩
 refine Z6 ?_ ?_
 ·intro hb2 hp2
  refine R7 ?_
  exact Z8y
 intro hb2 hp2
 refine R8 ?_
 exact Z8y
theorem SortI_calls {w0 w:World} {l:List HProp} (a:Option Addr) (c:Nat) (d:List PItem) (hs:Sat w0 w (Row 159 encPItem (.slice a d.length c) d::l)) (hd:d.length≤1000):Calls Tryz.prog 155 #[.slice a d.length c,.func (.func 156) #[] #[]] w (Ret w0 fun v l'=>∃ d2:List PItem,d2.Perm d∧v=.tuple #[]∧l'=Row 159 encPItem (.slice a d2.length c) d2::l) :=
 (sort_rows (E:=encPItem) 159 Tryz.sortI Tryz.isAgg159 Tryz.sizeOf159 cmpI swo_cmpI 156 (enters_of Tryz.func156 (by kernel_rfl) rfl) (fun W x y=>AllC_calls x y (Sat.start W)) hs (by omega)).mono fun e w1 ⟨v,l1,he,⟨d2,h1,_,h3,h4⟩,s⟩=>⟨v,l1,he,⟨d2,h1,h3,by rw [h4,h1.length_eq]⟩,s⟩
theorem CloneI_calls {w0 w:World} {l:List HProp} (a:Option Addr) (c:Nat) (d:List PItem) (hs:Sat w0 w (l)) (hr:Rds w0 l encPItem a d) (hd:d.length≤1000) :
  Calls Tryz.prog 154 #[.slice a d.length c] w (Ret w0 fun v l'=>∃ a2 c2,v=.slice a2 d.length c2∧l'=Row 159 encPItem (.slice a2 d.length c2) d::l):=by
 obtain ⟨hn,_⟩:=hr [] _ hs
 refine calls_enter Tryz.func154 rfl rfl rfl hs ?_
 refine R7 ?_
 refine oq (op_eqnilS Tryz.underlying161 rfl rfl) ?_
 refine Z8 ?_ ?_
 ·intro hb1 hp1
  have ha:a=none:=by simpa using hb1
  have hdn:=hn ha
  subst hdn
  refine R6 ?_
  exact px_ret1 rfl (v:=.slice _ _ _) rfl (fun _ s=>s.rowNil) ⟨_,_,rfl,rfl⟩
 intro hb1 hp1
 refine R3 ?_
 refine oi (os_bslice (E:=encPItem) [] (ys:=[]) sB_161 zv_159 rfl rfl rfl rfl (by decide)) ?_;rintro _ _ ⟨ao1,rfl,rfl⟩
 refine R1 ?_
 refine oi (os_append (E:=encPItem) rfl sB_161 zv_159 rfl rfl rfl (fun w s=>(hr.cons _) [] w s) rfl (by simp;omega) (by unfold maxLen;simp;omega)) ?_;rintro _ _ ⟨ao2,ac2,rfl,rfl⟩
 refine R4 ?_
 exact Z8z
theorem PAll_calls {w0 w:World} {l:List HProp} (pp:Nat) (most quota:Int) (a:Option Addr) (c:Nat) (d:List PItem) (hs:Sat w0 w ((Blk pp (.cells #[.slice a d.length c,.int .i64 most,.int .i64 quota] 186 (0,0)))::(Row 159 encPItem (.slice a d.length c) d)::l)) (hL:d.length≤1000) :
  Calls Tryz.prog 113 #[.pointer (some ⟨pp,0,none⟩)] w (Ret w0 fun v l'=>∃ a2 c2 d2,d2.Perm d∧v=.slice a2 d2.length c2∧l'=Row 159 encPItem (.slice a2 d2.length c2) d2::Blk pp (.cells #[.slice a d.length c,.int .i64 most,.int .i64 quota] 186 (0,0))::Row 159 encPItem (.slice a d.length c) d::l):=by
 refine calls_enter Tryz.func113 rfl rfl rfl hs ?_
 refine R7 ?_
 refine Z4p ?_
 refine Z2o ?_
 refine oi (os_call cb_154 rfl (fun w s=>CloneI_calls _ _ _  s (rds_row 1 rfl rfl) (by omega))) ?_;rintro _ _ ⟨ca1,cc1,rfl,rfl⟩
 refine R5 ?_
 refine oi (os_call cb_155 rfl (fun w s=>SortI_calls _ _ _  s (by omega))) ?_;rintro _ _ ⟨ds2,hds2,rfl,rfl⟩
 refine R8 ?_
 exact px_ret1 rfl (v:=.slice _ _ _) rfl (fun _ s=>s) ⟨_,_,ds2,hds2,by rw [hds2.length_eq],by rw [hds2.length_eq]⟩
theorem laidOutT:laidOutB Tryz.prog=true:=by kernel_rfl
theorem keyed_root:Go.Maps.Keyed Tryz.prog 35:=Go.Maps.Keyed.of_law (deep_law_laid laidOutT (m:=3) (by omega) (show 35<Tryz.prog.types.size from Nat.le_of_ble_eq_true (by kernel_rfl)) (by kernel_rfl) (by kernel_rfl))
/-- a tree: all that it owns -/
def TreeObj (p:Nat) (t:TreeS):HProp:=ex fun x:Option Addr×Nat×Nat=>match x with | (a1,c1,b)=>stars [pr t.WF,Blk p (.cells #[.slice a1 t.nodes.length c1,.map (some b),.int .i64 t.most] 108 (0,0)),Row 169 encNode (.slice a1 t.nodes.length c1) t.nodes,MapO EVR EVI b (atOf t.nodes)]
theorem Sat.treeOpen {w0 w:World} {l:List HProp} {p:Nat} {t:TreeS} (s:Sat w0 w (TreeObj p t::l)):∃ a1 c1 b,t.WF∧Sat w0 w (Blk p (.cells #[.slice a1 t.nodes.length c1,.map (some b),.int .i64 t.most] 108 (0,0))::Row 169 encNode (.slice a1 t.nodes.length c1) t.nodes::MapO EVR EVI b (atOf t.nodes)::l):=by
 obtain ⟨⟨a1,c1,b⟩,s⟩:=Sat.ex_iff.1 s
 have s1:=Sat.stars_iff.1 s
 obtain ⟨hw,s2⟩:=Sat.pr_iff.1 s1
 exact ⟨a1,c1,b,hw,s2⟩
theorem Sat.treeMk {w0 w:World} {l:List HProp} {p:Nat} {t:TreeS} {a1:Option Addr} {c1 b m1:Nat} (hw:t.WF) (h1:m1=t.nodes.length)
  (s:Sat w0 w (Blk p (.cells #[.slice a1 m1 c1,.map (some b),.int .i64 t.most] 108 (0,0))::Row 169 encNode (.slice a1 m1 c1) t.nodes::MapO EVR EVI b (atOf t.nodes)::l)):Sat w0 w (TreeObj p t::l):=by
 subst h1
 exact Sat.ex_iff.2 ⟨(a1,c1,b),Sat.stars_iff.2 (Sat.pr_iff.2 ⟨hw,s⟩)⟩
theorem Sat.treeWF {w0 w:World} {l:List HProp} {p:Nat} {t:TreeS} (s:Sat w0 w (TreeObj p t::l)):t.WF:=let ⟨_,_,_,h,_⟩:=s.treeOpen;h
theorem cd_treeOpen {w0:World} {n:Nat} {Q:Exit→Act→World→Prop} {f:Fr} {c:Code} {l:List HProp} {p:Nat} {t:TreeS} (h:∀ a1 c1 b,t.WF→CD Tryz.prog w0 n c Q f (Blk p (.cells #[.slice a1 t.nodes.length c1,.map (some b),.int .i64 t.most] 108 (0,0))::Row 169 encNode (.slice a1 t.nodes.length c1) t.nodes::MapO EVR EVI b (atOf t.nodes)::l)):CD Tryz.prog w0 n c Q f (TreeObj p t::l):=fun a w r s =>
 let ⟨a1,c1,b,hw,s'⟩:=s.treeOpen
 h a1 c1 b hw a w r s'
theorem keyok_tree {t:TreeS} (hw:t.WF) (r:Root):KeyOK Tryz.prog 35 EVR (atOf t.nodes) r:=keyokR keyed_root rk_35 r (by rw [atOf_keys];exact hw.nd)
theorem TNew_calls {w0 w:World} {l:List HProp} (r:Root) (slot most:Int) (hs:Sat w0 w (l))  :
  Calls Tryz.prog 94 #[.agg (rootC r).toArray,.int .i64 slot,.int .i64 most] w (Ret w0 fun v l'=>(v=.tuple #[.pointer none,.int .i64 1]∧l'=l∧(most<1∨256<most∨slot<0∨1073741824<slot))∨∃ p,v=.tuple #[.pointer (some ⟨p,0,none⟩),.int .i64 0]∧(1≤most∧most≤256∧0≤slot∧slot≤1073741824)∧l'=TreeObj p (TreeS.new r slot most)::l):=by
 refine calls_enter Tryz.func94 rfl rfl rfl hs ?_
 refine Z5 ?_;intro bx1
 refine R9 ?_
 refine ols 10 rfl ?_ ?_
 ·intro hb1 hp1
  refine Z1e ?_
  refine Zq ?_
  refine Z1r ?_
  refine Zr ?_
  refine Z1r ?_
  refine Z44 ?_
  refine R7 ?_
  exact Z7n
 intro hb1 hp1
 refine Zv ?_
 refine Z3r ?_
 refine Zf ?_
 refine R1 ?_
 refine ols 14 rfl ?_ ?_
 ·intro hb2 hp2
  refine Zx ?_
  refine Z1w ?_
  refine Z1r ?_
  refine Z44 ?_
  refine R7 ?_
  exact Z7n
 intro hb2 hp2
 refine Z2a ?_
 refine Z49 ?_
 refine Z1o ?_
 refine R1 ?_
 refine ols 18 rfl ?_ ?_
 ·intro hb3 hp3
  refine Z1b ?_
  refine Z25 ?_
  refine Zh ?_
  refine R7 ?_
  exact Z7n
 intro hb3 hp3
 refine Z2h ?_
 refine Z3g ?_
 refine Z1v ?_
 refine Z8 ?_ ?_
 ·intro hb4 hp4
  refine R7 ?_
  exact Z7n
 intro hb4 hp4
 refine R3 ?_
 refine cd_drawe (M:=[]) mx [3,4,6,10] ?_
 refine e_q 0 rfl (wn_none rfl) (op_lda (L:=rootC _) 0 ag_35 rfl rfl (rootC_take' _) (by simp [rootC_len])) ?_
 refine Z4s ?_
 refine e_q 2 rfl (wn_none rfl) (op_build (L:=nodeC _) (vs:=[(0,.agg (rootC _).toArray),(1,.int _ _),(2,.int _ _)]) bB_169 rfl ⟨⟨by simp [Value.cells,rootC_len],by rw [nodeC_len];rfl⟩,⟨rfl,by rw [nodeC_len];rfl⟩,⟨rfl,by rw [nodeC_len];rfl⟩,trivial⟩ ((nodeC_b0 _ _ _).trans ((nodeC_b1 _ _ _).trans ((nodeC_b2 _ _ _).trans rfl)))) ?_
 refine e_q 5 rfl (wn_none rfl) (op_lda (L:=rootC _) 0 ag_35 rfl rfl (rootC_take' _) (by simp [rootC_len])) ?_
 refine Z7o ?_
 refine et_2 (i1:=3) (i2:=4) (by kernel_rfl) ?_ ?_
 ·
  refine ei_i rfl rfl (wn_none rfl) (os_bslice (E:=encNode) [_] (ys:=[_]) sB_105 zv_169 rfl rfl rfl rfl (by decide)) rfl ?_;rintro _ _ ⟨ao1,rfl,rfl⟩;refine ⟨[_],rfl,?_⟩
  refine Z1d ?_
  refine ei_i rfl rfl (wn_none rfl) (os_makeMapO EVR EVI) rfl ?_;rintro _ _ ⟨mp2,rfl,rfl⟩;refine ⟨[_,_],rfl,?_⟩
  refine Zs ?_
  refine ei_iN rfl rfl (wn_none rfl) (os_insert r (0:Int) Tryz.underlying106 (keyokR keyed_root rk_35 r (by simp)) rfl rfl rfl) ?_;rintro _ _ ⟨rfl,rfl⟩;refine ⟨[_,_],rfl,?_⟩
  refine e_q 7 rfl (wn_none rfl) (op_move (v:=.map _) rfl) ?_
  refine Z90 ?_
  refine Z1c ?_
  refine Za4 ?_;intro bx3
  refine e_q 12 rfl (wn_none rfl) (op_assign (v:=.int _ _) rfl) ?_
  refine Z9 ?_
  exact Zae
 refine ei_i rfl rfl (wn_none rfl) (os_makeMapO EVR EVI) rfl ?_;rintro _ _ ⟨mp4,rfl,rfl⟩;refine ⟨[_],rfl,?_⟩
 refine et_2 (i1:=3) (i2:=6) (by kernel_rfl) ?_ ?_
 ·
  refine ei_i rfl rfl (wn_none rfl) (os_bslice (E:=encNode) [_] (ys:=[_]) sB_105 zv_169 rfl rfl rfl rfl (by decide)) rfl ?_;rintro _ _ ⟨ao2,rfl,rfl⟩;refine ⟨[_,_],rfl,?_⟩
  refine Zs ?_
  refine ei_iN rfl rfl (wn_none rfl) (os_pull1 (os_insert r (0:Int) Tryz.underlying106 (keyokR keyed_root rk_35 r (by simp)) rfl rfl rfl)) ?_;rintro _ _ ⟨rfl,rfl⟩;refine ⟨[_,_],rfl,?_⟩
  refine e_q 7 rfl (wn_none rfl) (op_move (v:=.map _) rfl) ?_
  refine Z90 ?_
  refine Z1c ?_
  refine Za4 ?_;intro bx5
  refine e_q 12 rfl (wn_none rfl) (op_assign (v:=.int _ _) rfl) ?_
  refine Z9 ?_
  exact Zae
 refine ei_iN rfl rfl (wn_none rfl) (os_insert r (0:Int) Tryz.underlying106 (keyokR keyed_root rk_35 r (by simp)) rfl rfl rfl) ?_;rintro _ _ ⟨rfl,rfl⟩;refine ⟨[_],rfl,?_⟩
 refine e_q 7 rfl (wn_none rfl) (op_move (v:=.map _) rfl) ?_
 refine Z3t ?_
 refine ei_i rfl rfl (wn_none rfl) (os_bslice (E:=encNode) [_] (ys:=[_]) sB_105 zv_169 rfl rfl rfl rfl (by decide)) rfl ?_;rintro _ _ ⟨ao3,rfl,rfl⟩;refine ⟨[_,_],rfl,?_⟩
 refine Z90 ?_
 refine Z1c ?_
 refine Za4 ?_;intro bx6
 refine e_q 12 rfl (wn_none rfl) (op_assign (v:=.int _ _) rfl) ?_
 refine Z9 ?_
 exact px_ret2 rfl (v1:=.pointer _) (v2:=.int _ _) (l':=TreeObj _ (TreeS.new r slot most)::l) rfl rfl (fun _ s=>Sat.treeMk (t:=TreeS.new r slot most) (TreeS.WF.new (by omega) (by omega) (by omega) (by omega)) rfl (s.del 3)) (.inr ⟨_,rfl,by omega,rfl⟩)
theorem Place_calls {w0 w:World} {l:List HProp} (p:Nat) (t:TreeS) (r:Root) (hs:Sat w0 w ((TreeObj p t)::l))  :
  Calls Tryz.prog 16 #[.pointer (some ⟨p,0,none⟩),.agg (rootC r).toArray] w (Ret w0 fun v l'=>v=.int .i64 (t.place r)∧l'=TreeObj p t::l):=by
 obtain ⟨a1,c1,b,hw,hs⟩:=hs.treeOpen
 have hm1:=hw.m1;have hm2:=hw.m2;have hle:=hw.le;have hne:=hw.ne
 refine calls_enter Tryz.func16 rfl rfl rfl hs ?_
 refine Z5 ?_;intro bx1
 refine R6 ?_
 refine Z6m ?_
 refine Zi ?_
 refine R3 ?_
 rcases hlk:idxOf t.nodes r with _ | i0
 ·
  refine R1 ?_
  refine Zo ?_
  refine R5 ?_
  refine rg_q (wn_none rfl) (op_lookup2N 3 r Tryz.underlying106 zB_3 (keyok_tree hw r) (by rw [look_at_,hlk];rfl) rfl rfl rfl) rfl rfl ?_
  refine R5 ?_
  refine Zu ?_
  refine R4 ?_
  refine Z23 ?_
  refine R7 ?_
  exact Zaf
 refine R1 ?_
 refine Zo ?_
 refine R5 ?_
 refine rg_q (wn_none rfl) (op_lookup2S 3 r Tryz.underlying106 zB_3 (keyok_tree hw r) (by rw [look_at_,hlk];rfl) rfl rfl rfl) rfl rfl ?_
 refine R5 ?_
 refine Zu ?_
 refine R4 ?_
 refine Z35 ?_
 refine R7 ?_
 exact Zaf
theorem Node_calls {w0 w:World} {l:List HProp} (p:Nat) (t:TreeS) (i:Int) (hs:Sat w0 w ((TreeObj p t)::l))  :
  Calls Tryz.prog 75 #[.pointer (some ⟨p,0,none⟩),.int .i64 i] w (Ret w0 fun v l'=>v=.tuple #[.agg (nodeC ((t.node i).getD nodeNo)).toArray,.bool (t.node i).isSome]∧l'=TreeObj p t::l):=by
 obtain ⟨a1,c1,b,hw,hs⟩:=hs.treeOpen
 have hm1:=hw.m1;have hm2:=hw.m2;have hle:=hw.le;have hne:=hw.ne
 refine calls_enter Tryz.func75 rfl rfl rfl hs ?_
 refine R1 ?_
 refine Z3u ?_;intro bx1
 refine R6 ?_
 refine Z6m ?_
 refine R1 ?_
 refine Z3f ?_
 refine ol_q (wn_some rfl rfl rfl rfl rfl) (op_lt rfl rfl) rfl ?_
 refine Z1n ?_
 refine R1 ?_
 refine ols 12 rfl ?_ ?_
 ·intro hb1 hp1
  refine Z2n ?_
  refine Z1e ?_
  refine Z24 ?_
  refine Zq ?_
  refine Zh ?_
  refine R1 ?_
  refine oq (op_build (L:=nodeC _) (vs:=[(2,.int _ _)]) bB_169 rfl ⟨⟨rfl,by rw [nodeC_len];rfl⟩,trivial⟩ ((nodeC_b2 _ _ _).trans rfl)) ?_
  refine Z36 ?_
  refine R5 ?_
  have e:t.node i=none:=by unfold TreeS.node;first | rw [if_neg (by omega)] | (rw [if_pos (by omega),List.getElem?_eq_none (by omega)])
  rw [e]
  exact Z91
 intro hb1 hp1
 refine Zv ?_
 refine Z3q ?_
 refine Z48 ?_
 refine ol_q (wn_some rfl rfl rfl hb1 rfl) (op_field fld_108_0 rfl) rfl ?_
 refine ol_q (wn_some rfl rfl rfl hb1 rfl) (op_ld 1 sc_105 rfl rfl rfl) rfl ?_
 refine ol_q (wn_some rfl rfl rfl hb1 rfl) (op_len_slice Tryz.underlying105 rfl) rfl ?_
 refine ol_q (wn_some rfl rfl rfl hb1 rfl) (op_ge rfl rfl) rfl ?_
 refine Zf ?_
 refine Z8 ?_ ?_
 ·intro hb2 hp2
  refine R1 ?_
  refine oq (op_build (L:=nodeC _) (vs:=[(2,.int _ _)]) bB_169 rfl ⟨⟨rfl,by rw [nodeC_len];rfl⟩,trivial⟩ ((nodeC_b2 _ _ _).trans rfl)) ?_
  refine Z36 ?_
  refine R5 ?_
  have e:t.node i=none:=by unfold TreeS.node;first | rw [if_neg (by omega)] | (rw [if_pos (by omega),List.getElem?_eq_none (by omega)])
  rw [e]
  exact Z91
 intro hb2 hp2
 refine R8 ?_
 refine oq (op_index _ sB_105 rfl rfl (Int.toNat_of_nonneg (by omega)).symm (rds_row 2 rfl rfl) rfl (by omega)) ?_
 refine oq (op_ldaw (L:=nodeC _) ag_169 (rds_row 2 rfl rfl) rfl (by omega) rfl (nodeC_ta _)) ?_
 refine Z36 ?_
 refine R4 ?_
 have e:t.node i=some t.nodes[i.toNat]:=by unfold TreeS.node;rw [if_pos (by omega),List.getElem?_eq_getElem (by omega)]
 rw [e]
 exact Z91
theorem Len_calls {w0 w:World} {l:List HProp} (p:Nat) (t:TreeS) (hs:Sat w0 w ((TreeObj p t)::l))  :
  Calls Tryz.prog 54 #[.pointer (some ⟨p,0,none⟩)] w (Ret w0 fun v l'=>v=.int .i64 t.nodes.length∧l'=TreeObj p t::l):=by
 obtain ⟨a1,c1,b,hw,hs⟩:=hs.treeOpen
 have hm1:=hw.m1;have hm2:=hw.m2;have hle:=hw.le;have hne:=hw.ne
 refine calls_enter Tryz.func54 rfl rfl rfl hs ?_
 refine R7 ?_
 refine Z6m ?_
 refine Z2o ?_
 refine oq (op_len_slice Tryz.underlying105 rfl) ?_
 refine R4 ?_
 exact px_ret1 rfl (v:=.int _ _) (l':=TreeObj p t::l) rfl (fun _ s=>Sat.treeMk hw rfl s) ⟨rfl,rfl⟩
theorem Room_calls {w0 w:World} {l:List HProp} (p:Nat) (t:TreeS) (hs:Sat w0 w ((TreeObj p t)::l))  :
  Calls Tryz.prog 136 #[.pointer (some ⟨p,0,none⟩)] w (Ret w0 fun v l'=>v=.int .i64 (t.most-t.nodes.length)∧l'=TreeObj p t::l):=by
 obtain ⟨a1,c1,b,hw,hs⟩:=hs.treeOpen
 have hm1:=hw.m1;have hm2:=hw.m2;have hle:=hw.le;have hne:=hw.ne
 refine calls_enter Tryz.func136 rfl rfl rfl hs ?_
 refine R7 ?_
 refine Z6m ?_
 refine Zi ?_
 refine R3 ?_
 refine Zo ?_
 refine R8 ?_
 refine rg_q (wn_none rfl) (op_len_slice Tryz.underlying105 rfl) rfl rfl ?_
 refine R2 ?_
 refine Zu ?_
 refine R1 ?_
 exact px_ret1 rfl (v:=.int _ _) (l':=TreeObj p t::l) rfl (fun _ s=>Sat.treeMk hw rfl s) ⟨rfl,rfl⟩
theorem Add_calls {w0 w:World} {l:List HProp} (p:Nat) (t:TreeS) (r q:Root) (slot:Int) (hs:Sat w0 w ((TreeObj p t)::l))  :
  Calls Tryz.prog 190 #[.pointer (some ⟨p,0,none⟩),.agg (rootC r).toArray,.agg (rootC q).toArray,.int .i64 slot] w (Ret w0 fun v l'=>v=.int .i64 (t.add r q slot).1∧l'=TreeObj p (t.add r q slot).2::l):=by
 have hw:=hs.treeWF;have hwf2:=hw.add r q slot
 have hm1:=hw.m1;have hm2:=hw.m2;have hle:=hw.le;have hne:=hw.ne
 refine calls_enter Tryz.func190 rfl rfl rfl hs ?_
 refine Z1s ?_;intro bx1 bx2
 refine R7 ?_
 refine Z7 ?_
 refine oi (os_call cb_16 rfl (fun w s=>Place_calls _ _ _  s )) ?_;rintro _ _ ⟨rfl,rfl⟩
 refine Z92 ?_
 refine R3 ?_
 refine Z3u ?_;intro bx3
 refine Z36 ?_
 refine R7 ?_
 refine Z6m ?_
 refine R3 ?_
 refine Z23 ?_
 refine R3 ?_
 refine Z2 ?_
 refine oi (os_call cb_16 rfl (fun w s=>Place_calls _ _ _  s )) ?_;rintro _ _ ⟨rfl,rfl⟩
 refine R4 ?_
 refine Z4 ?_ ?_
 ·intro hb1 hp1
  have hr1:(idxOf t.nodes r).isSome=true:=TreeS.place_iff.1 (of_decide_eq_true hb1)
  refine R7 ?_
  have e:t.add r q slot=(4,t):=by unfold TreeS.add;rw [if_pos hr1]
  rw [e]
  exact Z6n
 intro hb1 hp1
 have hr1:¬ (idxOf t.nodes r).isSome=true:=fun h=>absurd (TreeS.place_iff.2 h) (of_decide_eq_false hb1)
 have hr0:idxOf t.nodes r=none:=by cases e:idxOf t.nodes r<;>simp_all
 refine R4 ?_
 refine ols 30 rfl ?_ ?_
 ·intro hb2 hp2
  have hq0:=TreeS.node_place_none (by simpa using hb2)
  have hcase:(match idxOf t.nodes q with | none=>(5,t) | some j=>if slot≤((t.nodes[j]?).getD nodeNo).slot∨1073741824<slot then (5,t) else if t.most≤t.nodes.length then (6,t) else (0,{ t with nodes:=t.nodes++[⟨r,slot,(j:Int)⟩] }))=((5:Int),t):=by rw [hq0]
  refine Zx ?_
  refine Zx ?_
  refine Z1w ?_
  refine Z1r ?_
  refine Zr ?_
  refine R3 ?_
  refine Z35 ?_
  refine R7 ?_
  have e:t.add r q slot=(5,t):=by unfold TreeS.add;rw [if_neg hr1];exact hcase
  rw [e]
  exact Z6n
 intro hb2 hp2
 obtain ⟨j,m0,hqj,hm0,hnode⟩:=TreeS.node_place_some (t:=t) (r:=q) (by simpa using hb2)
 have hgs:((t.node (t.place q)).getD nodeNo).slot=m0.slot:=by rw [hnode];rfl
 have hmsl:=hw.sl m0 (List.mem_of_getElem? hm0)
 refine ol_q (wn_some rfl rfl rfl hb2 rfl) (op_field fld_169_1 rfl) rfl ?_
 refine ol_q (wn_some rfl rfl rfl hb2 rfl) (op_ld 1 sc_3 rfl rfl (nodeC_a32 _)) rfl ?_
 refine Z2a ?_
 refine Z7p ?_
 refine Z1o ?_
 refine R1 ?_
 refine ols 36 rfl ?_ ?_
 ·intro hb3 hp3
  have hcase:(match idxOf t.nodes q with | none=>(5,t) | some j=>if slot≤((t.nodes[j]?).getD nodeNo).slot∨1073741824<slot then (5,t) else if t.most≤t.nodes.length then (6,t) else (0,{ t with nodes:=t.nodes++[⟨r,slot,(j:Int)⟩] }))=((5:Int),t):=by rw [hqj];simp only [hm0,Option.getD_some];rw [if_pos (.inl (by rw [←hgs];exact of_decide_eq_true hb3))]
  refine Z1b ?_
  refine Z25 ?_
  refine R3 ?_
  refine Z35 ?_
  refine R7 ?_
  have e:t.add r q slot=(5,t):=by unfold TreeS.add;rw [if_neg hr1];exact hcase
  rw [e]
  exact Z6n
 intro hb3 hp3
 refine Z2h ?_
 refine Z3g ?_
 refine Z1v ?_
 refine Z6 ?_ ?_
 ·intro hb4 hp4
  have hcase:(match idxOf t.nodes q with | none=>(5,t) | some j=>if slot≤((t.nodes[j]?).getD nodeNo).slot∨1073741824<slot then (5,t) else if t.most≤t.nodes.length then (6,t) else (0,{ t with nodes:=t.nodes++[⟨r,slot,(j:Int)⟩] }))=((5:Int),t):=by rw [hqj];simp only [hm0,Option.getD_some];rw [if_pos (.inr (of_decide_eq_true hb4))]
  refine R7 ?_
  have e:t.add r q slot=(5,t):=by unfold TreeS.add;rw [if_neg hr1];exact hcase
  rw [e]
  exact Z6n
 intro hb4 hp4
 have hsl:¬ (slot≤m0.slot∨1073741824<slot):=by rw [←hgs];omega
 refine R2 ?_
 refine oi (os_call cb_136 rfl (fun w s=>Room_calls _ _  s )) ?_;rintro _ _ ⟨rfl,rfl⟩
 refine R4 ?_
 refine Z4 ?_ ?_
 ·intro hb5 hp5
  have hcase:=hqj
  refine R7 ?_
  have e:t.add r q slot=(6,t):=by unfold TreeS.add;rw [if_neg hr1,hcase];simp only [hm0,Option.getD_some];rw [if_neg hsl,if_pos (by omega)]
  rw [e]
  exact Z6n
 intro hb5 hp5
 have hadd:t.add r q slot=(0,{ t with nodes:=t.nodes++[⟨r,slot,(j:Int)⟩] }):=by unfold TreeS.add;rw [if_neg hr1,hqj];simp only [hm0,Option.getD_some];rw [if_neg hsl,if_neg (by omega)]
 have hins:=ins_at (ns:=t.nodes) (x:=⟨r,slot,(j:Int)⟩) hr0
 have hjl:=idxOf_lt hqj
 refine R3 ?_
 refine cd_treeOpen ?_;intro a1 c1 b _
 refine R1 ?_
 refine cd_drawt (M:=[]) mx [] 10 (by kernel_rfl) rfl rfl ?_
 dsimp only [List.take_succ_cons,List.take_zero,List.drop_succ_cons,List.drop_zero]
 refine R9 ?_
 refine rg_q (wn_none rfl) (op_len_slice Tryz.underlying105 rfl) rfl rfl ?_
 refine rg_tail0 ?_
 refine Z7 ?_
 refine oN (os_mapUpdate r (t.nodes.length:Int) Tryz.underlying106 (keyok_tree hw r) rfl rfl rfl) ?_;rintro _ _ ⟨rfl,rfl⟩;rw [hins]
 refine R2 ?_
 refine cd_pull2 ?_
 refine R1 ?_
 refine cd_drawt (M:=[_]) mx [14,15] 16 (by kernel_rfl) rfl rfl ?_
 dsimp only [List.take_succ_cons,List.take_zero,List.drop_succ_cons,List.drop_zero]
 refine R12 ?_
 refine rg_q (wn_none rfl) (op_lookup1S 0 q Tryz.underlying106 zB_3 (keyokR keyed_root rk_35 q (by rw [atOf_keys];rw [hadd] at hwf2;exact hwf2.nd)) (v:=(j:Int)) (by rw [look_at_,idxOf_append,hqj];rfl) rfl rfl rfl) rfl rfl ?_
 refine rg_q (wn_none rfl) (op_build (L:=nodeC _) (vs:=[(0,.agg (rootC _).toArray),(1,.int _ _),(2,.int _ _)]) bB_169 rfl ⟨⟨by simp [Value.cells,rootC_len],by rw [nodeC_len];rfl⟩,⟨rfl,by rw [nodeC_len];rfl⟩,⟨rfl,by rw [nodeC_len];rfl⟩,trivial⟩ ((nodeC_b0 _ _ _).trans ((nodeC_b1 _ _ _).trans ((nodeC_b2 _ _ _).trans rfl)))) rfl rfl ?_
 refine rg_i (wn_none rfl) (os_bslice (E:=encNode) [_] (ys:=[_]) sB_105 zv_169 rfl rfl rfl rfl (by decide)) rfl rfl ?_;rintro _ _ ⟨ao1,rfl,rfl⟩;refine ⟨[_,_],rfl,?_⟩
 refine rg_i (wn_none rfl) (os_pull1 (os_append (E:=encNode) rfl sB_105 zv_169 rfl rfl rfl (fun w s=>(rds_row 1 rfl rfl) [] w s) rfl (by simp;omega) (by unfold maxLen;simp;omega))) rfl rfl ?_;rintro _ _ ⟨ao2,ac2,rfl,rfl⟩;refine ⟨[_,_],rfl,?_⟩
 refine rg_tail2 ?_
 refine R2 ?_
 refine Zg ?_
 refine oN (os_store (v:=.slice _ _ _) sc_105 rfl rfl rfl rfl (Free.zero _) rfl) ?_;rintro _ _ ⟨rfl,rfl⟩
 refine R7 ?_
 rw [hadd] at hwf2 ⊢
 exact px_ret1 rfl (v:=.int _ _) (l':=TreeObj p { t with nodes:=t.nodes++[⟨r,slot,(j:Int)⟩] }::l) rfl (fun _ s=>Sat.treeMk (t:={ t with nodes:=t.nodes++[⟨r,slot,(j:Int)⟩] }) hwf2 (by simp) (s.arr 7 [0,1,3])) ⟨rfl,rfl⟩
theorem cd_imp {P:Program} {w0:World} {n:Nat} {Q:Exit→Act→World→Prop} {f:Fr} {c:Code} {l l':List HProp} (hl:∀ w,Sat w0 w l→Sat w0 w l') (h:CD P w0 n c Q f l'):CD P w0 n c Q f l:=fun a w r s=>h a w r (hl w s)
/-- weights: their block and rows -/
def WRaw (pw pt:Nat) (o sm be lf:List Int):HProp:=ex fun x:Option Addr×Nat×Option Addr×Nat×Option Addr×Nat×Option Addr×Nat=>match x with | (a1,c1,a2,c2,a3,c3,a4,c4)=>stars (Blk pw (.cells #[.pointer (some ⟨pt,0,none⟩),.slice a1 o.length c1,.slice a2 sm.length c2,.slice a3 be.length c3,.slice a4 lf.length c4] 251 (0,0))::Row 3 encI64 (.slice a1 o.length c1) o::Row 3 encI64 (.slice a2 sm.length c2) sm::Row 3 encI64 (.slice a3 be.length c3) be::Row 3 encI64 (.slice a4 lf.length c4) lf::[])
theorem Sat.wrawOpen {w0 w:World} {l:List HProp} {pw pt:Nat} {o sm be lf:List Int} (s:Sat w0 w (WRaw pw pt o sm be lf::l)):∃ a1 c1 a2 c2 a3 c3 a4 c4,Sat w0 w (Blk pw (.cells #[.pointer (some ⟨pt,0,none⟩),.slice a1 o.length c1,.slice a2 sm.length c2,.slice a3 be.length c3,.slice a4 lf.length c4] 251 (0,0))::Row 3 encI64 (.slice a1 o.length c1) o::Row 3 encI64 (.slice a2 sm.length c2) sm::Row 3 encI64 (.slice a3 be.length c3) be::Row 3 encI64 (.slice a4 lf.length c4) lf::l):=by
 obtain ⟨⟨a1,c1,a2,c2,a3,c3,a4,c4⟩,s⟩:=Sat.ex_iff.1 s
 exact ⟨a1,c1,a2,c2,a3,c3,a4,c4,Sat.stars_iff.1 s⟩
theorem Sat.wrawMk {w0 w:World} {l:List HProp} {pw pt:Nat} {o sm be lf:List Int} {a1 a2 a3 a4:Option Addr} {c1 c2 c3 c4 m1 m2 m3 m4:Nat} (h1:m1=o.length) (h2:m2=sm.length) (h3:m3=be.length) (h4:m4=lf.length)
  (s:Sat w0 w (Blk pw (.cells #[.pointer (some ⟨pt,0,none⟩),.slice a1 m1 c1,.slice a2 m2 c2,.slice a3 m3 c3,.slice a4 m4 c4] 251 (0,0))::Row 3 encI64 (.slice a1 m1 c1) o::Row 3 encI64 (.slice a2 m2 c2) sm::Row 3 encI64 (.slice a3 m3 c3) be::Row 3 encI64 (.slice a4 m4 c4) lf::l)):Sat w0 w (WRaw pw pt o sm be lf::l):=by
 subst h1 h2 h3 h4
 exact Sat.ex_iff.2 ⟨(a1,c1,a2,c2,a3,c3,a4,c4),Sat.stars_iff.2 s⟩
theorem cd_wrawOpen {w0:World} {n:Nat} {Q:Exit→Act→World→Prop} {f:Fr} {c:Code} {l:List HProp} {pw pt:Nat} {o sm be lf:List Int} (h:∀ a1 c1 a2 c2 a3 c3 a4 c4,CD Tryz.prog w0 n c Q f (Blk pw (.cells #[.pointer (some ⟨pt,0,none⟩),.slice a1 o.length c1,.slice a2 sm.length c2,.slice a3 be.length c3,.slice a4 lf.length c4] 251 (0,0))::Row 3 encI64 (.slice a1 o.length c1) o::Row 3 encI64 (.slice a2 sm.length c2) sm::Row 3 encI64 (.slice a3 be.length c3) be::Row 3 encI64 (.slice a4 lf.length c4) lf::l)):CD Tryz.prog w0 n c Q f (WRaw pw pt o sm be lf::l):=fun a w r s =>
 let ⟨a1,c1,a2,c2,a3,c3,a4,c4,s'⟩:=s.wrawOpen
 h a1 c1 a2 c2 a3 c3 a4 c4 a w r s'
theorem ahead_calls {w0 w:World} {l:List HProp} (pw pt:Nat) (t:TreeS) (x1 x3 x4:Value) (a2:Option Addr) (c2 n2:Nat) (sm:List Int) (i:Nat) (k:Int) (hs:Sat w0 w ((TreeObj pt t)::(Blk pw (.cells #[.pointer (some ⟨pt,0,none⟩),x1,.slice a2 n2 c2,x3,x4] 251 (0,0)))::(Row 3 encI64 (.slice a2 n2 c2) sm)::l)) (hn:sm.length=n2) (hi:i<n2) (hk:k<(n2:Int)) :
  Calls Tryz.prog 178 #[.pointer (some ⟨pw,0,none⟩),.int .i64 (i:Int),.int .i64 k] w (Ret w0 fun v l'=>v=.bool (aheadN t.nodes (oA sm) i k)∧l'=TreeObj pt t::Blk pw (.cells #[.pointer (some ⟨pt,0,none⟩),x1,.slice a2 n2 c2,x3,x4] 251 (0,0))::Row 3 encI64 (.slice a2 n2 c2) sm::l):=by
 refine calls_enter Tryz.func178 rfl rfl rfl hs ?_
 refine R6 ?_
 refine Zo ?_
 refine R3 ?_
 refine rgs 13 rfl ?_ ?_
 ·intro hb1 hp1
  refine Z26 ?_
  refine Z26 ?_
  refine Z26 ?_
  refine Z26 ?_
  refine Z26 ?_
  refine Z26 ?_
  refine Z26 ?_
  refine Z26 ?_
  refine Z26 ?_
  refine Z26 ?_
  refine Z26 ?_
  refine Z26 ?_
  refine Z26 ?_
  refine Z26 ?_
  refine Z26 ?_
  refine rg_q (wn_none rfl) (op_pick_t (v:=.bool _) rfl hb1 rfl) rfl rfl ?_
  refine Zu ?_
  refine Z35 ?_
  refine R1 ?_
  refine Zo ?_
  refine R3 ?_
  refine rgs 32 rfl ?_ ?_
  ·intro hb2 hp2
   refine Z2m ?_
   refine Z2m ?_
   refine Z2m ?_
   refine Z2m ?_
   refine Z2m ?_
   refine Z2m ?_
   refine Z2m ?_
   refine Z7q ?_
   refine Z7r ?_
   refine Z1z ?_
   refine R2 ?_
   exact px_ret1 rfl (v:=.bool _) rfl (fun _ s=>s) ⟨congrArg Value.bool (by unfold aheadN;rw [decide_eq_true (show k<0 by omega)];rfl),rfl⟩
  intro hb2 hp2
  omega
 intro hb1 hp1
 refine rg_q (wn_some rfl rfl rfl hb1 rfl) (op_move (v:=.pointer _) rfl) rfl rfl ?_
 refine rg_q (wn_some rfl rfl rfl hb1 rfl) (op_nilck rfl) rfl rfl ?_
 refine rg_q (wn_some rfl rfl rfl hb1 rfl) (op_field fld_251_2 rfl) rfl rfl ?_
 refine rg_q (wn_some rfl rfl rfl hb1 rfl) (op_ld 1 sc_39 rfl rfl rfl) rfl rfl ?_
 refine rg_q (wn_some rfl rfl rfl hb1 rfl) (op_move (v:=.int _ _) rfl) rfl rfl ?_
 refine rg_q (wn_some rfl rfl rfl hb1 rfl) (op_index i sB_39 rfl rfl rfl (rds_row 2 rfl rfl) (by omega) (by omega)) rfl rfl ?_
 refine rg_q (wn_some rfl rfl rfl hb1 rfl) (op_ldw sc_3 (rds_row 2 rfl rfl) rfl (by omega) rfl) rfl rfl ?_
 refine rg_q (wn_some rfl rfl rfl hb1 rfl) (op_move (v:=.pointer _) rfl) rfl rfl ?_
 refine rg_q (wn_some rfl rfl rfl hb1 rfl) (op_nilck rfl) rfl rfl ?_
 refine rg_q (wn_some rfl rfl rfl hb1 rfl) (op_field fld_251_2 rfl) rfl rfl ?_
 refine rg_q (wn_some rfl rfl rfl hb1 rfl) (op_ld 1 sc_39 rfl rfl rfl) rfl rfl ?_
 refine rg_q (wn_some rfl rfl rfl hb1 rfl) (op_move (v:=.int _ _) rfl) rfl rfl ?_
 refine rg_q (wn_some rfl rfl rfl hb1 rfl) (op_index k.toNat sB_39 rfl rfl (by omega) (rds_row 2 rfl rfl) (by omega) (by omega)) rfl rfl ?_
 refine rg_q (wn_some rfl rfl rfl hb1 rfl) (op_ldw sc_3 (rds_row 2 rfl rfl) rfl (by omega) rfl) rfl rfl ?_
 refine rg_q (wn_some rfl rfl rfl hb1 rfl) (op_ne rfl rfl) rfl rfl ?_
 refine rg_q (wn_none rfl) (op_pick_f (v:=.bool _) rfl hb1 rfl) rfl rfl ?_
 refine Zu ?_
 refine Z4 ?_ ?_
 ·intro hb3 hp3
  refine R1 ?_
  refine Zo ?_
  refine R3 ?_
  refine rgs 32 rfl ?_ ?_
  ·intro hb4 hp4
   omega
  intro hb4 hp4
  refine rg_q (wn_some rfl rfl rfl hb4 rfl) (op_move (v:=.pointer _) rfl) rfl rfl ?_
  refine rg_q (wn_some rfl rfl rfl hb4 rfl) (op_nilck rfl) rfl rfl ?_
  refine rg_q (wn_some rfl rfl rfl hb4 rfl) (op_field fld_251_2 rfl) rfl rfl ?_
  refine rg_q (wn_some rfl rfl rfl hb4 rfl) (op_ld 1 sc_39 rfl rfl rfl) rfl rfl ?_
  refine rg_q (wn_some rfl rfl rfl hb4 rfl) (op_move (v:=.int _ _) rfl) rfl rfl ?_
  refine rg_q (wn_some rfl rfl rfl hb4 rfl) (op_index i sB_39 rfl rfl rfl (rds_row 2 rfl rfl) (by omega) (by omega)) rfl rfl ?_
  refine rg_q (wn_some rfl rfl rfl hb4 rfl) (op_ldw sc_3 (rds_row 2 rfl rfl) rfl (by omega) rfl) rfl rfl ?_
  refine rg_q (wn_some rfl rfl rfl hb4 rfl) (op_move (v:=.pointer _) rfl) rfl rfl ?_
  refine rg_q (wn_some rfl rfl rfl hb4 rfl) (op_nilck rfl) rfl rfl ?_
  refine rg_q (wn_some rfl rfl rfl hb4 rfl) (op_field fld_251_2 rfl) rfl rfl ?_
  refine rg_q (wn_some rfl rfl rfl hb4 rfl) (op_ld 1 sc_39 rfl rfl rfl) rfl rfl ?_
  refine rg_q (wn_some rfl rfl rfl hb4 rfl) (op_move (v:=.int _ _) rfl) rfl rfl ?_
  refine rg_q (wn_some rfl rfl rfl hb4 rfl) (op_index k.toNat sB_39 rfl rfl (by omega) (rds_row 2 rfl rfl) (by omega) (by omega)) rfl rfl ?_
  refine rg_q (wn_some rfl rfl rfl hb4 rfl) (op_ldw sc_3 (rds_row 2 rfl rfl) rfl (by omega) rfl) rfl rfl ?_
  refine rg_q (wn_some rfl rfl rfl hb4 rfl) (op_gt rfl rfl) rfl rfl ?_
  refine rg_q (wn_none rfl) (op_pick_f (v:=.bool _) rfl hb4 rfl) rfl rfl ?_
  refine Z1z ?_
  refine R2 ?_
  exact px_ret1 rfl (v:=.bool _) rfl (fun _ s=>s) ⟨congrArg Value.bool (by unfold aheadN beats;rw [decide_eq_false (show ¬ k<0 by omega),oA_get (show i<sm.length by omega),oA_get (show k.toNat<sm.length by omega),decide_eq_false (show ¬ sm[i]=sm[k.toNat] by omega),Bool.false_and,Bool.or_false,Bool.false_or]),rfl⟩
 intro hb3 hp3
 refine R8 ?_
 refine oi (os_call cb_75 rfl (fun w s=>Node_calls _ _ _  s )) ?_;rintro _ _ ⟨rfl,rfl⟩;rw [TreeS.node_at]
 refine R3 ?_
 refine Z3u ?_;intro bx1
 refine Z36 ?_
 refine R9 ?_
 refine Z2 ?_
 refine oi (os_call cb_75 rfl (fun w s=>Node_calls _ _ _  s )) ?_;rintro _ _ ⟨rfl,rfl⟩;rw [show t.node k=t.nodes[k.toNat]? from by unfold TreeS.node;rw [if_pos (by omega)]]
 refine R3 ?_
 refine Z3u ?_;intro bx2
 refine Z36 ?_
 refine R8 ?_
 refine oi (os_call cb_146 rfl (fun w s=>Less_calls _ _  s )) ?_;rintro _ _ ⟨rfl,rfl⟩
 refine R4 ?_
 exact px_ret1 rfl (v:=.bool _) rfl (fun _ s=>((s.del 2).del 0)) ⟨congrArg Value.bool (by unfold aheadN beats rtA;rw [decide_eq_false (show ¬ k<0 by omega),oA_get (show i<sm.length by omega),oA_get (show k.toNat<sm.length by omega),decide_eq_true (show sm[i]=sm[k.toNat] by omega),decide_eq_false (show ¬ sm[k.toNat]<sm[i] by omega)];rfl),rfl⟩
def cntP (p:Int) (d:List PItem):Nat:=d.countP fun x=>decide (x.peer=p)
theorem cntP_le (p:Int) (d:List PItem):cntP p d≤d.length:=List.countP_le_length
theorem cntP_yes {p:Int} {d:List PItem} {i:Nat} (h:i<d.length) (hp:d[i].peer=p):cntP p (d.take (i+1))=cntP p (d.take i)+1:=by
 unfold cntP;rw [List.take_succ_eq_append_getElem h,List.countP_append,List.countP_singleton,if_pos (by simpa using hp)]
theorem cntP_no {p:Int} {d:List PItem} {i:Nat} (h:i<d.length) (hp:d[i].peer≠p):cntP p (d.take (i+1))=cntP p (d.take i):=by
 unfold cntP;rw [List.take_succ_eq_append_getElem h,List.countP_append,List.countP_singleton,if_neg (by simpa using hp)];rfl
theorem filt_yes {p:PItem→Bool} {d:List PItem} {i:Nat} (h:i<d.length) (hp:p d[i]=true):(d.take i).filter p++[d[i]]=(d.take (i+1)).filter p:=by
 rw [List.take_succ_eq_append_getElem h,List.filter_append,List.filter_cons_of_pos hp,List.filter_nil]
theorem filt_no {p:PItem→Bool} {d:List PItem} {i:Nat} (h:i<d.length) (hp:¬ p d[i]=true):(d.take i).filter p=(d.take (i+1)).filter p:=by
 rw [List.take_succ_eq_append_getElem h,List.filter_append,List.filter_cons_of_neg hp,List.filter_nil,List.append_nil]
theorem POf_calls {w0 w:World} {l:List HProp} (pp:Nat) (most quota:Int) (a:Option Addr) (c:Nat) (d:List PItem) (p:Int) (hs:Sat w0 w ((Blk pp (.cells #[.slice a d.length c,.int .i64 most,.int .i64 quota] 186 (0,0)))::(Row 159 encPItem (.slice a d.length c) d)::l)) (hL:d.length≤1000) :
  Calls Tryz.prog 171 #[.pointer (some ⟨pp,0,none⟩),.int .i64 p] w (Ret w0 fun v l'=>v=.int .i64 (cntP p d:Nat)∧l'=Blk pp (.cells #[.slice a d.length c,.int .i64 most,.int .i64 quota] 186 (0,0))::Row 159 encPItem (.slice a d.length c) d::l):=by
 refine calls_enter Tryz.func171 rfl rfl rfl hs ?_
 refine R11 ?_
 refine Z2 ?_
 refine Z2 ?_
 refine oi (os_call cb_113 rfl (fun w s=>PAll_calls _ _ _ _ _ _  s (by omega))) ?_;rintro _ _ ⟨aa1,ac1,ad1,hpm,rfl,rfl⟩;have hal:=hpm.length_eq
 refine Z6o ?_
 refine R4 ?_
 refine cd_loop2 (α:=Nat) [(5,5),(7,7),(11,21)] (fun x=>[(5,.int .i64 (cntP p (ad1.take x):Nat)),(11,.int .i64 (x:Int))]) (fun _=>_) (fun x=>x≤ad1.length) (fun x=>ad1.length-x) 0 (Nat.zero_le _) ⟨rfl,rfl,trivial⟩ (fun _ s=>s) ?_
 rintro i hi f;(try dsimp only at hi ⊢)
 refine Z3 ?_ ?_
 ·intro hb1 hp1
  have hi1:i<ad1.length:=by omega
  have hcl:=cntP_le p (ad1.take i)
  have htl:(ad1.take i).length≤ad1.length:=by rw [List.length_take];omega
  refine R5 ?_
  refine oq (op_index i sB_161 rfl rfl rfl (rds_row 0 rfl rfl) rfl (by omega)) ?_
  refine oq (op_ldaw (L:=pItemC _) ag_159 (rds_row 0 rfl rfl) rfl (by omega) rfl (pItemC_ta _)) ?_
  refine Z7s ?_;intro bx1
  refine Z7t ?_
  refine R9 ?_
  refine Z4 ?_ ?_
  ·intro hb2 hp2
   have hq:ad1[i].peer=p:=by simpa using hb2
   have hc:=cntP_yes hi1 hq
   refine R2 ?_
   refine oq (op_adde (c:=((cntP p (ad1.take i)+1:Nat):Int)) rfl rfl (by omega) (by omega) (by omega)) ?_
   refine R8 ?_
   refine Zag ?_
   exact Z0
  intro hb2 hp2
  have hq:ad1[i].peer≠p:=by simpa using hb2
  have hc:=cntP_no hi1 hq
  refine R7 ?_
  refine Zag ?_
  exact Z0
 intro hb1 hp1
 have hie:i=ad1.length:=by omega
 refine R11 ?_
 exact px_ret1 rfl (v:=.int _ _) rfl (fun _ s=>(s.del 0)) ⟨congrArg (Value.int .i64) (by rw [hie,List.take_length];exact congrArg Nat.cast (hpm.countP_eq _)),rfl⟩
theorem PPutR_calls {w0 w:World} {l:List HProp} (pp:Nat) (most quota:Int) (a:Option Addr) (c:Nat) (d:List PItem) (x:PItem) (hs:Sat w0 w ((Blk pp (.cells #[.slice a d.length c,.int .i64 most,.int .i64 quota] 186 (0,0)))::(Row 159 encPItem (.slice a d.length c) d)::l)) (hL:d.length<64) (hm:(d.length:Int)<most) (hq:(cntP x.peer d:Int)<quota) (hno:∀ y∈d,y.root≠x.root) :
  Calls Tryz.prog 138 #[.pointer (some ⟨pp,0,none⟩),.agg (pItemC x).toArray] w (Ret w0 fun v l'=>∃ a2 c2 d2,d2.Perm (d++[x])∧v=.tuple #[.int .i64 1,.agg (pItemC PItem.zero).toArray]∧l'=Blk pp (.cells #[.slice a2 d2.length c2,.int .i64 most,.int .i64 quota] 186 (0,0))::Row 159 encPItem (.slice a2 d2.length c2) d2::l):=by
 refine calls_enter Tryz.func138 rfl rfl rfl hs ?_
 refine Z5 ?_;intro bx1
 refine R1 ?_
 refine Z7s ?_;intro bx2
 refine R6 ?_
 refine Z4p ?_
 refine R3 ?_
 refine Z23 ?_
 refine R4 ?_
 refine Zg ?_
 refine Zg ?_
 refine oi (os_call cb_170 rfl (fun w s=>PHasR_calls _ _ _ _ _ _ _  s (by omega))) ?_;rintro _ _ ⟨rfl,rfl⟩
 refine Z6 ?_ ?_
 ·intro hb1 hp1
  exact absurd (of_decide_eq_true hb1) (fun ⟨y,h1,h2⟩=>hno y h1 h2)
 intro hb1 hp1
 refine R1 ?_
 refine Zo ?_
 refine R3 ?_
 refine rg_soft (wn_none rfl) cb_171 ci_171 (fun M=>os_back (os_pull1 (os_pull1 (os_call cb_171 rfl (fun w s=>POf_calls _ _ _ _ _ _ _  s (by omega))))) (fun _ s=>s)) ?_
 refine R6 ?_
 refine Zu ?_
 refine Z4 ?_ ?_
 ·intro hb2 hp2
  exact Z5g
 intro hb2 hp2
 refine R1 ?_
 refine Zo ?_
 refine R1 ?_
 refine rg_soft (wn_none rfl) cb_43 ci_43 (fun M=>os_back (os_pull1 (os_pull1 (os_call cb_43 rfl (fun w s=>PLenR_calls _ _ _ _ _ _  s )))) (fun _ s=>s)) ?_
 refine R6 ?_
 refine Zu ?_
 refine Z4 ?_ ?_
 ·intro hb3 hp3
  refine cd_pull1 ?_
  refine R1 ?_
  refine cd_draw (M:=[_,_]) mx [6] (by kernel_rfl) ?_
  refine R3 ?_
  refine rg_q (wn_none rfl) (op_mkif Tryz.underlying227 rfl rfl) rfl rfl ?_
  refine R1 ?_
  refine rg_q (wn_none rfl) (op_mkif Tryz.underlying159 rfl rfl) rfl rfl ?_
  refine rg_i (wn_none rfl) (os_pull1 (os_call cb_172 rfl (fun w s=>HPush_calls _ _ _ _ _ _ _  s (by omega)))) rfl rfl ?_;rintro _ _ ⟨pa4,pc4,hd4,hp4,rfl,rfl⟩;refine ⟨[_,_],rfl,?_⟩
  refine rg_nil_then2 ?_
  refine R1 ?_
  refine oq (op_build (L:=pItemC _) (vs:=[]) bB_159 rfl trivial rfl) ?_
  refine R1 ?_
  refine Z7 ?_
  refine Z7t ?_
  refine R5 ?_
  exact px_rv2 rfl (rv_tmp (v:=.int _ _) rfl) (rv_cella 0 ag_159 rfl rfl (pItemC_ta _) (by simp [pItemC_len])) (fun _ s=>((s.del 3).del 0)) ⟨_,_,_,hp4,rfl,rfl⟩
 intro hb3 hp3
 exact absurd (of_decide_eq_false hb3) (by omega)
theorem PPut_calls {w0 w:World} {l:List HProp} (pp:Nat) (most quota:Int) (L:List PItem) (x:PItem) (hs:Sat w0 w (PoolObj pp most quota L::l)) (hL:L.length<64) (hm:(L.length:Int)<most) (hq:(cntP x.peer L:Int)<quota) (hno:∀ y∈L,y.root≠x.root):Calls Tryz.prog 138 #[.pointer (some ⟨pp,0,none⟩),.agg (pItemC x).toArray] w (Ret w0 fun v l'=>v=.tuple #[.int .i64 1,.agg (pItemC PItem.zero).toArray]∧l'=PoolObj pp most quota (x::L)::l):=by
 obtain ⟨a,c,d,hd,hs⟩:=hs.poolOpen
 refine (PPutR_calls pp most quota a c d x hs (by have:=hd.length_eq;omega) (by have:=hd.length_eq;omega) (by rw [show cntP x.peer d=cntP x.peer L from hd.countP_eq _];exact hq) (fun y hy=>hno y (hd.mem_iff.1 hy))).mono fun e w1 ⟨v,l1,he,hR,s⟩=>?_
 obtain ⟨a2,c2,d2,hp,rfl,rfl⟩:=hR
 exact ⟨_,_,he,⟨rfl,rfl⟩,Sat.poolMk (hp.trans ((hd.append_right [x]).trans (List.perm_append_singleton x L))) rfl rfl s⟩
theorem PTakeR_calls {w0 w:World} {l:List HProp} (pp:Nat) (most quota:Int) (a:Option Addr) (c:Nat) (d:List PItem) (rb:Nat) (r:Root) (hs:Sat w0 w ((Blk pp (.cells #[.slice a d.length c,.int .i64 most,.int .i64 quota] 186 (0,0)))::(Row 159 encPItem (.slice a d.length c) d)::(Blk rb (.cells (rootC r).toArray 35 (0,0)))::l)) (hL:d.length≤500) :
  Calls Tryz.prog 72 #[.pointer (some ⟨pp,0,none⟩),.func (.func 193) #[] #[.pointer (some ⟨rb,0,none⟩)]] w (Ret w0 fun v l'=>∃ a2 c2 out a3 c3 d3,out.Perm (d.filter fun y=>decide (y.par=r))∧d3.Perm (d.filter fun y=>!decide (y.par=r))∧v=.slice a2 out.length c2∧l'=Row 159 encPItem (.slice a2 out.length c2) out::Blk pp (.cells #[.slice a3 d3.length c3,.int .i64 most,.int .i64 quota] 186 (0,0))::Row 159 encPItem (.slice a3 d3.length c3) d3::Blk rb (.cells (rootC r).toArray 35 (0,0))::l):=by
 refine calls_enter Tryz.func72 rfl rfl rfl hs ?_
 refine R7 ?_
 refine Z4p ?_
 refine Zi ?_
 refine R10 ?_
 refine Z2 ?_
 refine Z2 ?_
 refine oi (os_call cb_113 rfl (fun w s=>PAll_calls _ _ _ _ _ _  s (by omega))) ?_;rintro _ _ ⟨aa1,ac1,ad1,hpm,rfl,rfl⟩;have hal:=hpm.length_eq
 refine Z6o ?_
 refine R4 ?_
 refine Z7u ?_
 refine Z7u ?_
 refine cd_loop2 (α:=Nat×(Option Addr×Nat)×(Option Addr×Nat)) [(5,6),(8,8),(14,29)] (fun x=>[(5,.slice x.2.1.1 ((ad1.take x.1).filter fun y=>decide (y.par=r)).length x.2.1.2),(6,.slice x.2.2.1 ((ad1.take x.1).filter fun y=>!decide (y.par=r)).length x.2.2.2),(14,.int .i64 (x.1:Int))]) (fun x=>Row 159 encPItem (.slice x.2.2.1 ((ad1.take x.1).filter fun y=>!decide (y.par=r)).length x.2.2.2) ((ad1.take x.1).filter fun y=>!decide (y.par=r))::Row 159 encPItem (.slice x.2.1.1 ((ad1.take x.1).filter fun y=>decide (y.par=r)).length x.2.1.2) ((ad1.take x.1).filter fun y=>decide (y.par=r))::Row 159 encPItem (.slice aa1 ad1.length ac1) ad1::Blk pp (.cells #[.slice a d.length c,.int .i64 most,.int .i64 quota] 186 (0,0))::Row 159 encPItem (.slice a d.length c) d::Blk rb (.cells (rootC r).toArray 35 (0,0))::l) (fun x=>x.1≤ad1.length) (fun x=>ad1.length-x.1) (0,(none,0),(none,0)) (Nat.zero_le _) ⟨rfl,rfl,rfl,trivial⟩ (fun _ s=>s) ?_
 rintro ⟨i,⟨b1,d1⟩,⟨b2,d2⟩⟩ hi f;(try dsimp only at hi ⊢)
 refine Z3 ?_ ?_
 ·intro hb1 hp1
  have hi1:i<ad1.length:=by omega
  refine R5 ?_
  refine oq (op_index i sB_161 rfl rfl rfl (rds_row 2 rfl rfl) rfl (by omega)) ?_
  refine oq (op_ldaw (L:=pItemC _) ag_159 (rds_row 2 rfl rfl) rfl (by omega) rfl (pItemC_ta _)) ?_
  refine Z7s ?_;intro bx1
  refine Z7t ?_
  refine R3 ?_
  refine Z4r ?_
  refine R1 ?_
  refine ol_pull6 ?_
  refine oi (os_callv (C:=[_]) (vs:=[_]) cb_193 rfl rfl (fun w s=>OfC_calls _ _ _  s )) ?_;rintro _ _ ⟨rfl,rfl⟩
  refine Z8 ?_ ?_
  ·intro hb2 hp2
   have hq:ad1[i].par=r:=by simpa using hb2
   have eO:((ad1.take i).filter fun y=>decide (y.par=r))++[ad1[i]]=((ad1.take (i+1)).filter fun y=>decide (y.par=r)):=filt_yes hi1 (decide_eq_true hq)
   have eR:((ad1.take i).filter fun y=>!decide (y.par=r))=((ad1.take (i+1)).filter fun y=>!decide (y.par=r)):=filt_no hi1 (by simp [hq])
   refine R3 ?_
   refine oi (os_bslice (E:=encPItem) [_] (ys:=[_]) sB_161 zv_159 rfl rfl rfl rfl (by decide)) ?_;rintro _ _ ⟨ao1,rfl,rfl⟩
   refine ol_pull4 ?_
   refine oi (os_append (E:=encPItem) rfl sB_161 zv_159 rfl rfl rfl (fun w s=>(rds_row 1 rfl rfl) [] w s) rfl (by have:=List.length_filter_le (fun y:PItem=>decide (y.par=r)) (ad1.take i);simp at this;simp;omega) (by have:=List.length_filter_le (fun y:PItem=>decide (y.par=r)) (ad1.take i);simp at this;unfold maxLen;simp;omega)) ?_;rintro _ _ ⟨ao2,ac2,rfl,rfl⟩
   refine R8 ?_
   refine px_loop2 (i+1,(ao2,ac2),(b2,d2)) (by omega) (by (try dsimp only);omega) ⟨congrArg (fun q=>Value.slice ao2 (List.length q) ac2) eO,congrArg (fun q=>Value.slice b2 (List.length q) d2) eR,congrArg (Value.int .i64) (by simp),trivial⟩ ?_ (fun _ s=>(by (try dsimp only);rw [←eO,←eR];exact (s.arr 8 [4,0,5,6,7,2])))
   exact Z0
  intro hb2 hp2
  have hq:ad1[i].par≠r:=by simpa using hb2
  have eO:((ad1.take i).filter fun y=>decide (y.par=r))=((ad1.take (i+1)).filter fun y=>decide (y.par=r)):=filt_no hi1 (by simpa using hq)
  have eR:((ad1.take i).filter fun y=>!decide (y.par=r))++[ad1[i]]=((ad1.take (i+1)).filter fun y=>!decide (y.par=r)):=filt_yes hi1 (by simpa using hq)
  refine R3 ?_
  refine oi (os_bslice (E:=encPItem) [_] (ys:=[_]) sB_161 zv_159 rfl rfl rfl rfl (by decide)) ?_;rintro _ _ ⟨ao3,rfl,rfl⟩
  refine Zg ?_
  refine oi (os_append (E:=encPItem) rfl sB_161 zv_159 rfl rfl rfl (fun w s=>(rds_row 1 rfl rfl) [] w s) rfl (by have:=List.length_filter_le (fun y:PItem=>!decide (y.par=r)) (ad1.take i);simp at this;simp;omega) (by have:=List.length_filter_le (fun y:PItem=>!decide (y.par=r)) (ad1.take i);simp at this;unfold maxLen;simp;omega)) ?_;rintro _ _ ⟨ao4,ac4,rfl,rfl⟩
  refine R8 ?_
  refine px_loop2 (i+1,(b1,d1),(ao4,ac4)) (by omega) (by (try dsimp only);omega) ⟨congrArg (fun q=>Value.slice b1 (List.length q) d1) eO,congrArg (fun q=>Value.slice ao4 (List.length q) ac4) eR,congrArg (Value.int .i64) (by simp),trivial⟩ ?_ (fun _ s=>(by (try dsimp only);rw [←eO,←eR];exact (s.arr 8 [0,4,5,6,7,2])))
  exact Z0
 intro hb1 hp1
 have hie:i=ad1.length:=by omega
 subst hie
 rw [List.take_length]
 have hfl:=List.length_filter_le (fun y:PItem=>!decide (y.par=r)) ad1
 refine R10 ?_
 refine Zg ?_
 refine oN (os_store (v:=.slice _ _ _) sc_184 rfl rfl rfl rfl (Free.zero _) rfl) ?_;rintro _ _ ⟨rfl,rfl⟩
 refine R6 ?_
 refine oq (op_mkif Tryz.underlying227 rfl rfl) ?_
 refine Z2 ?_
 refine Z2 ?_
 refine oi (os_call cb_114 rfl (fun w s=>HInit_calls _ _ _ _ _ _  s (by omega))) ?_;rintro _ _ ⟨hd3,hp3,rfl,rfl⟩
 refine R8 ?_
 exact px_ret1 rfl (v:=.slice _ _ _) rfl (fun _ s=>(s.arr 6 [2,0,1,5])) ⟨_,_,_,_,_,_,hpm.filter _,hp3.trans (hpm.filter _),rfl,rfl⟩
def putB (n:Nat):Nat→List UInt8
  | 0=>[]
  | k+1=>putB n k++[UInt8.ofNat (n / 256 ^ k)]
def clamp8 (w:Int):Nat:=(min (max w 0) 8).toNat
def leNat:List UInt8→Nat
  | []=>0
  | b::r=>b.toNat+256*leNat r
structure RdS where
  rest:List UInt8
  short:Bool
def rdBytes (r:RdS) (n:Int):List UInt8×RdS :=
  if r.short=true∨n<0∨(r.rest.length:Int)<n then ([],⟨[],true⟩) else (r.rest.take n.toNat,⟨r.rest.drop n.toNat,false⟩)
def rdUint (r:RdS) (w:Int):Nat×RdS :=
  let p:=rdBytes r (if 8<w then -1 else w)
  (leNat p.1,p.2)
theorem putB_length (n k:Nat):(putB n k).length=k:=by
  induction k with
  | zero=>rfl
  | succ k ih=>simp [putB,ih]
theorem clamp8_le (w:Int):clamp8 w≤8:=by unfold clamp8;omega
theorem clamp8_pred {wd:Int} (h:¬ wd≤0):clamp8 wd=clamp8 ((if 8<wd then 8 else wd)-1)+1:=by
  unfold clamp8;split<;>omega
theorem clamp8_if (w:Int):(if 8<(if w<0 then 0 else w) then 8 else (if w<0 then 0 else w))=(clamp8 w:Int):=by
  unfold clamp8
  by_cases h:w<0
  · simp only [h,if_true];omega
  · simp only [h,if_false];split<;>omega
theorem leNat_lt:∀ l:List UInt8,leNat l<256 ^ l.length
  | []=>by simp [leNat]
  | b::r=>by
    have h1:=leNat_lt r
    have h2:=b.toNat_lt
    simp only [leNat,List.length_cons,Nat.pow_succ]
    omega
theorem or_low (A b:Nat) (h:b<256):A*2 ^ 8 ||| b=b+256*A:=by
  have:=Nat.shiftLeft_add_eq_or_of_lt (i:=8) (b:=b) (by omega) A
  rw [Nat.shiftLeft_eq] at this
  omega
theorem leNat_drop (s:List UInt8) (j:Nat) (h:j<s.length):leNat (s.drop j)=(s.getD j 0).toNat+256*leNat (s.drop (j+1)):=by
  rw [List.drop_eq_getElem_cons h]
  simp [leNat,List.getD_eq_getElem?_getD,List.getElem?_eq_getElem h]
theorem rdBytes_len (r:RdS) (w:Int):(rdBytes r (if 8<w then -1 else w)).1.length≤8:=by
  generalize hm:(if 8<w then (-1:Int) else w)=m
  have hm8:m≤8:=by split at hm<;>omega
  unfold rdBytes
  by_cases h:r.short=true∨m<0∨(r.rest.length:Int)<m
  · rw [if_pos h];simp
  · rw [if_neg h];dsimp only;rw [List.length_take];omega
theorem putB_cons (A k:Nat):putB A (k+1)=UInt8.ofNat (A % 256)::putB (A / 256) k:=by
  induction k with
  | zero=>simp only [putB,Nat.pow_zero,Nat.div_one,List.nil_append,List.cons.injEq,and_true];apply UInt8.toNat_inj.1;simp [UInt8.toNat_ofNat']
  | succ k ih=>rw [putB,ih,putB];simp [Nat.pow_succ,Nat.div_div_eq_div_mul,Nat.mul_comm]
theorem rdBytes_bad {r:RdS} {n:Int} (h:r.short=true∨n<0∨(r.rest.length:Int)<n):rdBytes r n=([],⟨[],true⟩):=if_pos h
theorem rdBytes_ok {r:RdS} {n:Int} (h1:r.short=false) (h2:0≤n) (h3:n≤r.rest.length):rdBytes r n=(r.rest.take n.toNat,⟨r.rest.drop n.toNat,false⟩):=if_neg (by simp [h1];omega)
def puts (k:Nat) (xs:List Nat):List UInt8:=xs.flatMap fun x=>putB x k
theorem pow256 (k:Nat):256 ^ k=2 ^ (8*k):=by rw [Nat.pow_mul]
theorem leNat_putB (A:Nat):∀ k,leNat (putB A k)=A % 256 ^ k
  | 0=>by simp [putB,leNat,Nat.mod_one]
  | k+1=>by
    have h:=leNat_putB (A / 256) k
    rw [putB_cons,leNat,h]
    have h1:(UInt8.ofNat (A % 256)).toNat=A % 256:=by simp [UInt8.toNat_ofNat']
    rw [h1,Nat.pow_succ,Nat.mul_comm (256 ^ k) 256,Nat.mod_mul]
def low:List Bool→Nat
  | []=>0
  | b::r=>b.toNat+2*low r
theorem low_lt:∀ l:List Bool,low l<2 ^ l.length
  | []=>by simp [low]
  | b::r=>by
    have h1:=low_lt r
    have h2:b.toNat≤1:=Bool.toNat_le b
    simp only [low,List.length_cons,Nat.pow_succ]
    omega
theorem low_snoc (l:List Bool) (b:Bool):low (l++[b])=low l+b.toNat*2 ^ l.length:=by
  induction l with
  | nil=>simp [low]
  | cons a l ih =>
    simp only [List.cons_append,low,ih,List.length_cons,Nat.pow_succ,Nat.mul_add]
    rw [show b.toNat*(2 ^ l.length*2)=2*(b.toNat*2 ^ l.length) by rw [←Nat.mul_assoc,Nat.mul_comm]]
    omega
theorem low_take (xs:List Bool) (i:Nat) (h:i<xs.length):low (xs.take (i+1))=low (xs.take i)+xs[i].toNat*2 ^ i:=by
  rw [List.take_succ_eq_append_getElem h,low_snoc,List.length_take,Nat.min_eq_left (by omega)]
theorem low_take_lt (xs:List Bool) (i:Nat):low (xs.take i)<2 ^ i :=
  Nat.lt_of_lt_of_le (low_lt _) (Nat.pow_le_pow_right (by decide) (by rw [List.length_take];omega))
theorem low_inj:∀ {a b:List Bool},a.length=b.length→low a=low b→a=b
  | [],[],_,_=>rfl
  | [],_::_,h,_=>by simp at h
  | _::_,[],h,_=>by simp at h
  | x::a,y::b,h,e=>by
    simp only [low] at e
    have h1:x.toNat≤1:=Bool.toNat_le x
    have h2:y.toNat≤1:=Bool.toNat_le y
    have h3:low a=low b:=by omega
    have h4:x.toNat=y.toNat:=by omega
    rw [low_inj (by simpa using h) h3]
    congr 1
    cases x<;>cases y<;>simp_all
def num (l:List Bool):Nat:=low l+2 ^ l.length
theorem num_lt (l:List Bool):num l<2 ^ (l.length+1):=by
  have:=low_lt l
  unfold num
  rw [Nat.pow_succ]
  omega
theorem putB_get (A:Nat):∀ (K j:Nat),j<K→(putB A K)[j]? = some (UInt8.ofNat (A / 256 ^ j))
  | K+1,j,h=>by
    rw [putB]
    rcases Nat.lt_or_ge j K with h1 | h1
    · rw [List.getElem?_append_left (by rw [putB_length];exact h1)]
      exact putB_get A K j h1
    · obtain rfl:j=K:=by omega
      rw [List.getElem?_append_right (by rw [putB_length];omega),putB_length]
      simp
theorem putB_zero:∀ K,putB 0 K=List.replicate K 0
  | 0=>rfl
  | K+1=>by rw [putB,putB_zero K,List.replicate_succ'];simp
theorem ofNat_mod (a:Nat):UInt8.ofNat (a % 256)=UInt8.ofNat a:=by
  apply UInt8.toNat_inj.1
  simp
theorem or_pow (M k:Nat) (h:M<2 ^ k):M ||| 2 ^ k=M+2 ^ k:=by
  have:=Nat.shiftLeft_add_eq_or_of_lt h 1
  rw [Nat.shiftLeft_eq,Nat.one_mul] at this
  rw [Nat.or_comm,←this,Nat.add_comm]
theorem split_pow (i:Nat):2 ^ i=256 ^ (i / 8)*2 ^ (i % 8):=by
  rw [pow256,←Nat.pow_add]
  congr 1
  omega
theorem put_set (bs:List UInt8) (M K i:Nat) (hi:i / 8<K) (hM:M<2 ^ i) (h:bs.length+i / 8<(bs++putB M K).length) :
    (bs++putB M K).set (bs.length+i / 8) ((bs++putB M K)[bs.length+i / 8] ||| UInt8.ofNat (1*2 ^ (i % 8)))=bs++putB (M+2 ^ i) K:=by
  have hget:(bs++putB M K)[bs.length+i / 8]=UInt8.ofNat (M / 256 ^ (i / 8)):=by
    have h1:(bs++putB M K)[bs.length+i / 8]? = some (UInt8.ofNat (M / 256 ^ (i / 8))):=by
      rw [List.getElem?_append_right (by omega),Nat.add_sub_cancel_left]
      exact putB_get M K _ hi
    rw [List.getElem?_eq_getElem h] at h1
    exact Option.some.inj h1
  have hq:M / 256 ^ (i / 8)<2 ^ (i % 8):=by
    rw [Nat.div_lt_iff_lt_mul (Nat.pow_pos (by decide)),Nat.mul_comm,←split_pow];exact hM
  have hm8:2 ^ (i % 8)≤128:=by
    have:=Nat.pow_le_pow_right (show 0<2 by decide) (show i % 8≤7 by omega)
    exact this
  have hv:UInt8.ofNat (M / 256 ^ (i / 8)) ||| UInt8.ofNat (1*2 ^ (i % 8))=UInt8.ofNat ((M+2 ^ i) / 256 ^ (i / 8)):=by
    rw [split_pow i,Nat.add_mul_div_left _ _ (Nat.pow_pos (by decide)),←or_pow _ _ hq,Nat.one_mul]
    apply UInt8.toNat_inj.1
    rw [UInt8.toNat_or]
    have e1:(UInt8.ofNat (M / 256 ^ (i / 8))).toNat=M / 256 ^ (i / 8):=by simp [UInt8.toNat_ofNat'];omega
    have e2:(UInt8.ofNat (2 ^ (i % 8))).toNat=2 ^ (i % 8):=by simp only [UInt8.toNat_ofNat'];omega
    rw [e1,e2]
    have e3:=or_pow _ _ hq
    rw [e3]
    simp only [UInt8.toNat_ofNat']
    omega
  rw [hget,hv,List.set_append_right _ _ (by omega),Nat.add_sub_cancel_left]
  congr 1
  apply List.ext_getElem?
  intro j
  rcases Nat.lt_or_ge j K with hj | hj
  · rw [putB_get _ _ _ hj]
    rcases Nat.lt_trichotomy j (i / 8) with h1 | h1 | h1
    · rw [List.getElem?_set_ne (by omega),putB_get _ _ _ hj]
      congr 1
      obtain ⟨d,hd⟩:∃ d,i / 8=j+(d+1):=⟨i / 8-j-1,by omega⟩
      rw [←ofNat_mod (M / 256 ^ j),←ofNat_mod ((M+2 ^ i) / 256 ^ j)]
      congr 1
      have e:2 ^ i=256 ^ j*(256*(256 ^ d*2 ^ (i % 8))):=by
        rw [split_pow i,hd,Nat.pow_add,Nat.pow_succ]
        simp only [Nat.mul_assoc,Nat.mul_comm,Nat.mul_left_comm]
      rw [e,Nat.add_mul_div_left _ _ (Nat.pow_pos (by decide)),Nat.add_mul_mod_self_left]
    · subst h1
      rw [List.getElem?_set_self (by rw [putB_length];omega)]
    · rw [List.getElem?_set_ne (by omega),putB_get _ _ _ hj]
      have hb:2 ^ (i+1)≤256 ^ j:=by
        rw [pow256]
        exact Nat.pow_le_pow_right (by decide) (by omega)
      rw [Nat.pow_succ] at hb
      rw [Nat.div_eq_of_lt (by omega),Nat.div_eq_of_lt (by omega)]
  · rw [List.getElem?_eq_none (by rw [List.length_set,putB_length];exact hj),List.getElem?_eq_none (by rw [putB_length];exact hj)]
def enc8 (l:List Bool):List UInt8:=putB (num l) (l.length / 8+1)
theorem enc8_length (l:List Bool):(enc8 l).length=l.length / 8+1:=putB_length _ _
theorem leNat_enc8 (l:List Bool):leNat (enc8 l)=num l:=by
  unfold enc8
  rw [leNat_putB,Nat.mod_eq_of_lt]
  refine Nat.lt_of_lt_of_le (num_lt l) ?_
  rw [pow256]
  exact Nat.pow_le_pow_right (by decide) (by omega)
def bitsOf (N:Nat):Nat→List Bool
  | 0=>[]
  | n+1=>bitsOf N n++[decide (N / 2 ^ n % 2=1)]
theorem bitsOf_length (N n:Nat):(bitsOf N n).length=n:=by
  induction n with
  | zero=>rfl
  | succ n ih=>simp [bitsOf,ih]
theorem low_bitsOf (N n:Nat):low (bitsOf N n)=N % 2 ^ n:=by
  induction n with
  | zero=>simp [bitsOf,low,Nat.mod_one]
  | succ n ih =>
    rw [bitsOf,low_snoc,ih,bitsOf_length,Nat.pow_succ,Nat.mod_mul]
    have:(decide (N / 2 ^ n % 2=1)).toNat=N / 2 ^ n % 2:=by
      rcases Nat.mod_two_eq_zero_or_one (N / 2 ^ n) with h | h<;>simp [h]
    rw [this,Nat.mul_comm]
theorem bitsOf_low (l:List Bool) (N:Nat) (h:N % 2 ^ l.length=low l):bitsOf N l.length=l :=
  low_inj (bitsOf_length _ _) (by rw [low_bitsOf,h])
theorem bitsOf_num (l:List Bool):bitsOf (num l) l.length=l:=bitsOf_low l _ (by
  unfold num
  rw [Nat.add_mod_right,Nat.mod_eq_of_lt (low_lt l)])
/-- how many places a row of bytes has -/
def len8 (n:Nat):Nat:=if n=0 then 0 else Nat.log2 n+1
def lastB (s:List UInt8):UInt8:=s.getD (s.length-1) 0
def rowLen (s:List UInt8):Nat:=8*(s.length-1)+(len8 (lastB s).toNat-1)
/-- Get: the row;none: there is none -/
def getB (s:List UInt8) (most:Int):Option (List Bool) :=
  if s=[]∨lastB s=0∨most<rowLen s then none else some (bitsOf (leNat s) (rowLen s))
theorem enc8_full (xs:List Bool):putB (low xs+2 ^ xs.length) (xs.length / 8+1)=enc8 xs:=rfl
theorem low_step (xs:List Bool) (i:Nat) (h:i<xs.length):low (xs.take (i+1))=if xs[i]=true then low (xs.take i)+2 ^ i else low (xs.take i):=by
  rw [low_take xs i h]
  cases xs[i]<;>simp
theorem leNat_byte:∀ (s:List UInt8) (j:Nat),leNat s / 256 ^ j % 256=(s.getD j 0).toNat
  | [],j=>by simp [leNat]
  | b::r,0=>by
    have:=b.toNat_lt
    simp only [leNat,Nat.pow_zero,Nat.div_one,List.getD_cons_zero]
    omega
  | b::r,j+1=>by
    have:=b.toNat_lt
    rw [List.getD_cons_succ,←leNat_byte r j,Nat.pow_succ,Nat.mul_comm,←Nat.div_div_eq_div_mul]
    congr 2
    simp only [leNat]
    omega
theorem bit_mod (x r:Nat) (h:r<8):x / 2 ^ r % 2=x % 256 / 2 ^ r % 2:=by
  have:r=0∨r=1∨r=2∨r=3∨r=4∨r=5∨r=6∨r=7:=by omega
  rcases this with rfl | rfl | rfl | rfl | rfl | rfl | rfl | rfl<;>simp only [Nat.reducePow]<;>omega
theorem bit_of (s:List UInt8) (i:Nat):leNat s / 2 ^ i % 2=(s.getD (i / 8) 0).toNat / 2 ^ (i % 8) % 2:=by
  rw [split_pow i,←Nat.div_div_eq_div_mul,bit_mod _ _ (by omega),leNat_byte]
theorem bits_set (N n i:Nat) (h:i<n):(bitsOf N i++List.replicate (n-i) false).set i (decide (N / 2 ^ i % 2=1))=bitsOf N (i+1)++List.replicate (n-(i+1)) false:=by
  obtain ⟨d,rfl⟩:∃ d,n=i+(d+1):=⟨n-i-1,by omega⟩
  rw [List.set_append_right _ _ (by rw [bitsOf_length];exact Nat.le_refl _),bitsOf_length,show i+(d+1)-i=d+1 by omega,show i+(d+1)-(i+1)=d by omega,Nat.sub_self,List.replicate_succ,List.set_cons_zero,bitsOf,List.append_assoc]
  rfl
theorem len8_pos {n:Nat} (h:n≠0):1≤len8 n:=by unfold len8;rw [if_neg h];omega
theorem len8_le {n:Nat} (h:n<256):len8 n≤8:=by
  unfold len8
  split
  · omega
  · rename_i h0
    have:=(Nat.log2_lt h0).2 (show n<2 ^ 8 from h)
    omega
theorem len8_key (t:List UInt8) (ht:t=(List.range 256).map (fun n=>UInt8.ofNat (len8 n))) (n:Nat) (h:n<256):(((t.getD n 0).toNat:Nat):Int)=len8 n:=by
  subst ht
  have h8:=len8_le h
  rw [List.getD_eq_getElem?_getD,List.getElem?_map,List.getElem?_range h]
  simp [UInt8.toNat_ofNat']
  omega
def getD' (s:List UInt8) (most:Int):List Bool:=(getB s most).getD []
theorem rowLen_eq (s:List UInt8) (h:s≠[]) (hc:(s.getD (s.length-1) 0).toNat≠0):(rowLen s:Int)=8*((s.length:Int)-1)+(len8 (s.getD (s.length-1) 0).toNat:Nat)-1∧rowLen s≤8*(s.length-1)+7∧1≤s.length:=by
  have h1:=len8_pos hc
  have h2:=len8_le (s.getD (s.length-1) 0).toNat_lt
  have h3:s.length≠0:=fun h0=>h (List.eq_nil_of_length_eq_zero h0)
  have h4:rowLen s=8*(s.length-1)+(len8 (s.getD (s.length-1) 0).toNat-1):=rfl
  omega
theorem getB_none {s:List UInt8} {most:Int} (h:s=[]∨(s.getD (s.length-1) 0).toNat=0∨most<rowLen s):getB s most=none:=by
  unfold getB
  rw [if_pos]
  rcases h with h | h | h
  · exact .inl h
  · exact .inr (.inl (UInt8.toNat_inj.1 h))
  · exact .inr (.inr h)
theorem getB_some {s:List UInt8} {most:Int} (h1:s≠[]) (h2:(s.getD (s.length-1) 0).toNat≠0) (h3:(rowLen s:Int)≤most):getB s most=some (bitsOf (leNat s) (rowLen s)):=by
  unfold getB
  rw [if_neg]
  rintro (h | h | h)
  · exact h1 h
  · exact h2 (by have:s.getD (s.length-1) 0=0:=h
                 rw [this];rfl)
  · omega
/-- where a row says yes -/
def places:List Bool→Nat→List Int
  | [],_=>[]
  | b::r,k=>(if b=true then [(k:Int)] else [])++places r (k+1)
theorem rowLen_enc8 (l:List Bool):rowLen (enc8 l)=l.length∧((enc8 l).getD ((enc8 l).length-1) 0).toNat≠0:=by
  have h1:=num_lt l
  have h2:2 ^ l.length≤num l:=Nat.le_add_left _ _
  have hK:=enc8_length l
  have hlast:((enc8 l).getD ((enc8 l).length-1) 0)=UInt8.ofNat (num l / 256 ^ (l.length / 8)):=by
    rw [List.getD_eq_getElem?_getD,hK,Nat.add_sub_cancel]
    unfold enc8
    rw [putB_get _ _ _ (by omega)]
    rfl
  have hpos:0<256 ^ (l.length / 8):=Nat.pow_pos (by decide)
  have ha:2 ^ (l.length % 8)≤num l / 256 ^ (l.length / 8):=by
    rw [Nat.le_div_iff_mul_le hpos,Nat.mul_comm,←split_pow];exact h2
  have hb:num l / 256 ^ (l.length / 8)<2 ^ (l.length % 8+1):=by
    rw [Nat.div_lt_iff_lt_mul hpos,Nat.pow_succ,Nat.mul_right_comm,Nat.mul_comm (2 ^ (l.length % 8)),←split_pow,←Nat.pow_succ];exact h1
  have hc:2 ^ (l.length % 8+1)≤256:=Nat.pow_le_pow_right (show 0<2 by decide) (show l.length % 8+1≤8 by omega)
  have hd:(UInt8.ofNat (num l / 256 ^ (l.length / 8))).toNat=num l / 256 ^ (l.length / 8):=by simp only [UInt8.toNat_ofNat'];omega
  have h0:0<2 ^ (l.length % 8):=Nat.pow_pos (by decide)
  have hne:num l / 256 ^ (l.length / 8)≠0:=by omega
  have hlog:Nat.log2 (num l / 256 ^ (l.length / 8))=l.length % 8:=by
    have e1:=(Nat.log2_lt hne).2 hb
    have e2:¬ Nat.log2 (num l / 256 ^ (l.length / 8))<l.length % 8:=fun h=>by
      have:=(Nat.log2_lt hne).1 h
      omega
    omega
  refine ⟨?_,by rw [hlast,hd];exact hne⟩
  have:rowLen (enc8 l)=8*((enc8 l).length-1)+(len8 ((enc8 l).getD ((enc8 l).length-1) 0).toNat-1):=rfl
  rw [this,hlast,hd,hK]
  unfold len8
  rw [if_neg hne,hlog]
  omega
theorem enc8_ne (l:List Bool):enc8 l≠[]:=fun h=>by have:=enc8_length l;rw [h] at this;simp at this
theorem getB_enc8 (l:List Bool) (most:Int) (h:(l.length:Int)≤most):getB (enc8 l) most=some l:=by
  obtain ⟨h1,h2⟩:=rowLen_enc8 l
  rw [getB_some (enc8_ne l) h2 (by rw [h1];exact h),h1,leNat_enc8,bitsOf_num]
theorem putB_leNat:∀ s:List UInt8,putB (leNat s) s.length=s
  | []=>rfl
  | b::r=>by
    have hb:=b.toNat_lt
    rw [List.length_cons,putB_cons,leNat,show (b.toNat+256*leNat r) / 256=leNat r by omega,putB_leNat r]
    congr 1
    apply UInt8.toNat_inj.1
    simp only [UInt8.toNat_ofNat']
    omega
theorem leNat_last (s:List UInt8) (h:s≠[]):leNat s / 256 ^ (s.length-1)=(s.getD (s.length-1) 0).toNat:=by
  have h1:=leNat_byte s (s.length-1)
  have h2:=leNat_lt s
  have h3:s.length≠0:=fun h0=>h (List.eq_nil_of_length_eq_zero h0)
  rw [←h1,Nat.mod_eq_of_lt]
  rw [Nat.div_lt_iff_lt_mul (Nat.pow_pos (by decide)),Nat.mul_comm,←Nat.pow_succ,show (s.length-1).succ=s.length by omega]
  exact h2
theorem getB_back {s:List UInt8} {most:Int} (h:(getB s most).isSome=true):enc8 (getD' s most)=s∧((getD' s most).length:Int)≤most:=by
  have hn:¬ (s=[]∨lastB s=0∨most<rowLen s):=fun h0=>by
    have:getB s most=none:=if_pos h0
    rw [this] at h;cases h
  have hs:s≠[]:=fun h0=>hn (.inl h0)
  have hc:(s.getD (s.length-1) 0).toNat≠0:=fun h0=>hn (.inr (.inl (UInt8.toNat_inj.1 h0)))
  have hm:(rowLen s:Int)≤most:=Int.not_lt.1 fun h0=>hn (.inr (.inr h0))
  have e:getD' s most=bitsOf (leNat s) (rowLen s):=by unfold getD';rw [getB_some hs hc hm];rfl
  have hl3:s.length≠0:=fun h0=>hs (List.eq_nil_of_length_eq_zero h0)
  have hlen8:len8 (s.getD (s.length-1) 0).toNat=Nat.log2 (s.getD (s.length-1) 0).toNat+1:=by unfold len8;rw [if_neg hc]
  have hk:Nat.log2 (s.getD (s.length-1) 0).toNat<8:=(Nat.log2_lt hc).2 (UInt8.toNat_lt _)
  have hr:rowLen s=8*(s.length-1)+Nat.log2 (s.getD (s.length-1) 0).toNat:=by
    have:rowLen s=8*(s.length-1)+(len8 (s.getD (s.length-1) 0).toNat-1):=rfl
    omega
  have hlast:=leNat_last s hs
  have hlo:2 ^ rowLen s≤leNat s:=by
    have h1:=Nat.log2_self_le hc
    rw [←hlast] at h1 hr
    rw [hr,Nat.pow_add,←pow256,Nat.mul_comm]
    exact (Nat.le_div_iff_mul_le (Nat.pow_pos (by decide))).1 h1
  have hhi:leNat s<2 ^ (rowLen s+1):=by
    have h1:(s.getD (s.length-1) 0).toNat<2 ^ (Nat.log2 (s.getD (s.length-1) 0).toNat+1):=(Nat.log2_lt hc).1 (Nat.lt_succ_self _)
    rw [←hlast] at h1 hr
    rw [hr,Nat.add_assoc,Nat.pow_add,←pow256,Nat.mul_comm]
    exact (Nat.div_lt_iff_lt_mul (Nat.pow_pos (by decide))).1 h1
  have hnum:num (bitsOf (leNat s) (rowLen s))=leNat s:=by
    unfold num
    rw [low_bitsOf,bitsOf_length]
    rw [Nat.pow_succ] at hhi
    have h1:leNat s=2 ^ rowLen s+(leNat s-2 ^ rowLen s):=by omega
    rw [h1,Nat.add_mod_left,Nat.mod_eq_of_lt (by omega)]
    omega
  rw [e]
  refine ⟨?_,by rw [bitsOf_length];exact hm⟩
  unfold enc8
  rw [hnum,bitsOf_length,show rowLen s / 8+1=s.length by omega,putB_leNat]
def cnt (N:Nat):Nat→Nat
  | 0=>0
  | m+1=>cnt N m+N / 2 ^ m % 2
/-- a row of so many,with those places set -/
def marks (ps:List Int) (n:Nat):List Bool:=(List.range n).map fun (i:Nat)=>decide ((i:Int)∈ps)
def lastI (ps:List Int) (m:Nat):Int:=if m=0 then -1 else ps.getD (m-1) 0
theorem put_add (M K i:Nat) (hi:i / 8<K) (hM:M<2 ^ i) (h:i / 8<(putB M K).length) :
    (putB M K).set (i / 8) ((putB M K)[i / 8]+UInt8.ofNat (2 ^ (i % 8)))=putB (M+2 ^ i) K:=by
  have h1:=put_set [] M K i hi hM (by simpa using h)
  simp only [List.nil_append,List.length_nil,Nat.zero_add,Nat.one_mul] at h1
  rw [←h1]
  congr 1
  have hget:(putB M K)[i / 8]=UInt8.ofNat (M / 256 ^ (i / 8)):=by
    have h2:=putB_get M K (i / 8) hi
    rw [List.getElem?_eq_getElem h] at h2
    exact Option.some.inj h2
  have hq:M / 256 ^ (i / 8)<2 ^ (i % 8):=by
    rw [Nat.div_lt_iff_lt_mul (Nat.pow_pos (by decide)),Nat.mul_comm,←split_pow];exact hM
  have hm8:2 ^ (i % 8)≤128:=Nat.pow_le_pow_right (show 0<2 by decide) (show i % 8≤7 by omega)
  rw [hget]
  apply UInt8.toNat_inj.1
  have e1:(UInt8.ofNat (M / 256 ^ (i / 8))).toNat=M / 256 ^ (i / 8):=by simp [UInt8.toNat_ofNat'];omega
  have e2:(UInt8.ofNat (2 ^ (i % 8))).toNat=2 ^ (i % 8):=by simp only [UInt8.toNat_ofNat'];omega
  rw [UInt8.toNat_or,UInt8.toNat_add,e1,e2,or_pow _ _ hq,Nat.mod_eq_of_lt (by omega)]
theorem putB_grow (M i:Nat) (hM:M<2 ^ i) (h8:i % 8=0):putB M ((i+7) / 8)++[0]=putB M (i / 8+1):=by
  have e:(i+7) / 8=i / 8:=by omega
  have hp:2 ^ i=256 ^ (i / 8):=by rw [split_pow,h8,Nat.pow_zero,Nat.mul_one]
  have h0:M / 256 ^ (i / 8)=0:=Nat.div_eq_of_lt (by rw [←hp];exact hM)
  have h1:putB M (i / 8+1)=putB M (i / 8)++[UInt8.ofNat (M / 256 ^ (i / 8))]:=rfl
  rw [h1,e,h0]
  rfl
def goodW (k sl mb:Int) (bd:Nat) (bits:List Bool):Bool :=
  decide (0≤sl∧sl≤1073741824∧0≤mb∧mb≤65535∧(k=1∨bd=0)∧(k=3∧mb=0∧bits.length≤16∧bits.contains true=true∨(k=1∨k=2)∧bits.length=0))
def bodyW (k mb:Int) (bd:Nat) (bits:List Bool):List UInt8 :=
  if k=1 then putB (u64N mb) 2++putB bd 8 else if k=2 then putB (u64N mb) 2 else if k=3 then enc8 bits else []
def plainW (k sl:Int) (tg:Root) (mb:Int) (bd:Nat) (bits:List Bool):List UInt8:=[byteI k]++putB (u64N sl) 4++tg.1++bodyW k mb bd bits
theorem bodyW_le (k mb:Int) (bd:Nat) (bits:List Bool):(bodyW k mb bd bits).length≤10+bits.length:=by
  unfold bodyW
  split
  · simp [putB_length]
  · split
    · simp [putB_length];omega
    · split
      · rw [enc8_length];omega
      · simp
theorem plainW_len (k sl:Int) (tg:Root) (mb:Int) (bd:Nat) (bits:List Bool):(plainW k sl tg mb bd bits).length=37+(bodyW k mb bd bits).length:=by
  unfold plainW
  simp [putB_length,tg.2]
  omega
structure MsgP where
  kind:Int
  slot:Int
  target:Root
  member:Int
  body:Nat
  bits:List Bool
  tag:Tag
  deriving DecidableEq
def MsgP.zero:MsgP:=⟨0,0,Root.zero,0,0,[],Tag.zero⟩
def endR (r:RdS):Bool:=!r.short && decide (r.rest=[])
def okW (r:RdS) (m:MsgP):MsgP×Bool:=if endR r=true∧goodW m.kind m.slot m.member m.body m.bits=true then (m,true) else (MsgP.zero,false)
/-- what Decode answers,as it reads -/
def decP (s:List UInt8):MsgP×Bool :=
  let a:=rdUint ⟨s,false⟩ 1
  let b:=rdUint a.2 4
  let t:=rdBytes b.2 32
  let tg:=Root.zero.over t.1
  if (a.1:Int)=1 then
    let c:=rdUint t.2 2
    let d:=rdUint c.2 8
    let e:=rdBytes d.2 16
    okW e.2 ⟨a.1,b.1,tg,c.1,d.1,[],Tag.zero.over e.1⟩
  else if (a.1:Int)=2 then
    let c:=rdUint t.2 2
    let e:=rdBytes c.2 16
    okW e.2 ⟨a.1,b.1,tg,c.1,0,[],Tag.zero.over e.1⟩
  else if (a.1:Int)=3 then
    let c:=rdBytes t.2 ((t.2.rest.length:Int)-16)
    if (getB c.1 16).isSome=true then
      let e:=rdBytes c.2 16
      okW e.2 ⟨a.1,b.1,tg,0,0,getD' c.1 16,Tag.zero.over e.1⟩
    else (MsgP.zero,false)
  else
    let e:=rdBytes t.2 16
    okW e.2 ⟨a.1,b.1,tg,0,0,[],Tag.zero.over e.1⟩
def sameW (k sl:Int) (tg:Root) (mb:Int) (bd:Nat) (xs:List Bool) (tag:Tag) (k' sl':Int) (tg':Root) (mb':Int) (bd':Nat) (ys:List Bool) (tag':Tag):Bool :=
  decide (k=k') && (decide (sl=sl') && (decide (tg=tg') && (decide (mb=mb') && (decide (bd=bd') && (decide (tag=tag') && decide (xs=ys))))))
theorem cnt_pos (l:List Bool):0<l.count true↔l.contains true=true:=by
  rw [List.count_pos_iff,List.contains_iff_mem]
theorem cnt_succ (l:List Bool) (i:Nat) (h:i<l.length):(l.take (i+1)).count true=(l.take i).count true+(if l[i]=true then 1 else 0):=by
  rw [List.take_succ_eq_append_getElem h,List.count_append]
  by_cases e:l[i]=true<;>simp [e]
theorem rdBytes_len2 (r:RdS) (n:Int):(rdBytes r n).1.length≤r.rest.length:=by
  unfold rdBytes
  split
  · exact Nat.zero_le _
  · simp;omega
theorem rdBytes_rest (r:RdS) (n:Int):(rdBytes r n).2.rest.length≤r.rest.length:=by
  unfold rdBytes
  split
  · exact Nat.zero_le _
  · simp
theorem rdUint_rest (r:RdS) (n:Int):(rdUint r n).2.rest.length≤r.rest.length:=rdBytes_rest r _
theorem rdUint_lt (r:RdS) {k:Nat} (hk:k≤8):(rdUint r (k:Int)).1<256 ^ k:=by
  unfold rdUint
  rw [if_neg (by omega)]
  have h1:=leNat_lt (rdBytes r (k:Int)).1
  have h2:(rdBytes r (k:Int)).1.length≤k:=by
    unfold rdBytes
    split
    · exact Nat.zero_le _
    · simp;omega
  exact Nat.lt_of_lt_of_le h1 (Nat.pow_le_pow_right (by decide) h2)
theorem rdUint_lt1 (r:RdS):(rdUint r 1).1<256:=rdUint_lt r (k:=1) (by decide)
theorem rdUint_lt2 (r:RdS):(rdUint r 2).1<65536:=rdUint_lt r (k:=2) (by decide)
theorem rdUint_lt4 (r:RdS):(rdUint r 4).1<4294967296:=rdUint_lt r (k:=4) (by decide)
theorem rdUint_lt8 (r:RdS):(rdUint r 8).1<18446744073709551616:=rdUint_lt r (k:=8) (by decide)
theorem okW_yes {r:RdS} {m:MsgP} (h1:endR r=true) (h2:goodW m.kind m.slot m.member m.body m.bits=true):okW r m=(m,true):=if_pos ⟨h1,h2⟩
theorem okW_no {r:RdS} {m:MsgP} (h:¬ (endR r=true∧goodW m.kind m.slot m.member m.body m.bits=true)):okW r m=(MsgP.zero,false):=if_neg h
theorem goodW_iff {k sl mb:Int} {bd:Nat} {bits:List Bool}:goodW k sl mb bd bits=true↔(0≤sl∧sl≤1073741824∧0≤mb∧mb≤65535∧(k=1∨bd=0)∧(k=3∧mb=0∧bits.length≤16∧bits.contains true=true∨(k=1∨k=2)∧bits.length=0)):=decide_eq_true_iff
theorem goodW_k {k sl mb:Int} {bd:Nat} {bits:List Bool} (h:goodW k sl mb bd bits=true):1≤k∧k≤3:=by
  have:=goodW_iff.1 h
  omega
def walE:List UInt8:=if goodW 2 7 3 0 []=true then plainW 2 7 Root.zero 3 0 []++Tag.zero.1 else []
theorem byte1 {k:Int} (h1:1≤k) (h2:k≤3):putB (u64N k) 1=[byteI k]:=by
  have h3:k=1∨k=2∨k=3:=by omega
  rcases h3 with rfl | rfl | rfl<;>decide
/-- a reader: its block -/
def RdObj (p:Nat) (r:RdS):HProp:=Blk p (.cells #[.string (B r.rest),.bool r.short] 274 (0,0))
theorem From_calls {w0 w:World} {l:List HProp} (s:List UInt8) (hs:Sat w0 w (l))  :
  Calls Tryz.prog 115 #[.string (B s)] w (Ret w0 fun v l'=>∃ p,v=.pointer (some ⟨p,0,none⟩)∧l'=RdObj p ⟨s,false⟩::l):=by
 refine calls_enter Tryz.func115 rfl rfl rfl hs ?_
 refine R6 ?_
 refine oq (op_build (L:=[_,_]) (vs:=[(0,.string _)]) bB_274 rfl ⟨⟨rfl,rfl⟩,trivial⟩ rfl) ?_
 refine Z19 ?_;intro bx1
 refine R4 ?_
 exact px_ret1 rfl rfl (fun _ s=>s) ⟨_,rfl,rfl⟩
theorem End_calls {w0 w:World} {l:List HProp} (p:Nat) (r:RdS) (hs:Sat w0 w ((RdObj p r)::l))  :
  Calls Tryz.prog 120 #[.pointer (some ⟨p,0,none⟩)] w (Ret w0 fun v l'=>v=.bool (!r.short && decide (r.rest=[]))∧l'=RdObj p r::l):=by
 refine calls_enter Tryz.func120 rfl rfl rfl hs ?_
 refine R6 ?_
 refine oq (op_nenil Tryz.underlying228 rfl rfl) ?_
 refine R1 ?_
 refine Z6e ?_
 refine Z6f ?_
 refine ol_q (wn_some rfl rfl rfl rfl rfl) (op_field fld_274_1 rfl) rfl ?_
 refine ol_q (wn_some rfl rfl rfl rfl rfl) (op_ld 0 sc_4 rfl rfl rfl) rfl ?_
 refine Z6l ?_
 refine Zr ?_
 refine R1 ?_
 refine ols 12 rfl ?_ ?_
 ·intro hb1 hp1
  refine Z3q ?_
  refine Z48 ?_
  refine ol_q (wn_some rfl rfl rfl hb1 rfl) (op_field fld_274_0 rfl) rfl ?_
  refine ol_q (wn_some rfl rfl rfl hb1 rfl) (op_ld 0 sc_9 rfl rfl rfl) rfl ?_
  refine ol_q (wn_some rfl rfl rfl hb1 rfl) (op_seql rfl rfl) rfl ?_
  refine Zq ?_
  refine R4 ?_
  exact px_ret1 rfl (v:=.bool _) rfl (fun _ s=>s) ⟨by simp_all,rfl⟩
 intro hb1 hp1
 refine Z2n ?_
 refine Z24 ?_
 refine Zf ?_
 refine R4 ?_
 exact px_ret1 rfl (v:=.bool _) rfl (fun _ s=>s) ⟨by simp_all,rfl⟩
theorem Left_calls {w0 w:World} {l:List HProp} (p:Nat) (r:RdS) (hs:Sat w0 w ((RdObj p r)::l))  :
  Calls Tryz.prog 119 #[.pointer (some ⟨p,0,none⟩)] w (Ret w0 fun v l'=>v=.int .i64 r.rest.length∧l'=RdObj p r::l):=by
 refine calls_enter Tryz.func119 rfl rfl rfl hs ?_
 refine R7 ?_
 refine oq (op_eqnil Tryz.underlying228 rfl rfl) ?_
 refine Z2o ?_
 refine Z27 ?_
 refine R4 ?_
 exact Z2p
theorem Bytes_calls {w0 w:World} {l:List HProp} (p:Nat) (r:RdS) (n:Int) (hs:Sat w0 w ((RdObj p r)::l))  :
  Calls Tryz.prog 117 #[.pointer (some ⟨p,0,none⟩),.int .i64 n] w (Ret w0 fun v l'=>v=.string (B (rdBytes r n).1)∧l'=RdObj p (rdBytes r n).2::l):=by
 refine calls_enter Tryz.func117 rfl rfl rfl hs ?_
 refine R7 ?_
 refine oq (op_eqnil Tryz.underlying228 rfl rfl) ?_
 refine R1 ?_
 refine Z6e ?_
 refine Z6f ?_
 refine ol_q (wn_some rfl rfl rfl rfl rfl) (op_field fld_274_1 rfl) rfl ?_
 refine ol_q (wn_some rfl rfl rfl rfl rfl) (op_ld 0 sc_4 rfl rfl rfl) rfl ?_
 refine Z1n ?_
 refine R1 ?_
 refine ols 14 rfl ?_ ?_
 ·intro hb1 hp1
  refine Z1e ?_
  refine Zq ?_
  refine Z3c ?_
  refine Z6d ?_
  refine Z4v ?_
  refine Z44 ?_
  refine R3 ?_
  refine oq (op_nenil Tryz.underlying228 rfl rfl) ?_
  refine Zh ?_
  refine R5 ?_
  refine Z93 ?_
  refine R2 ?_
  refine Z7v ?_
  refine R8 ?_
  exact Z7w
 intro hb1 hp1
 refine Zv ?_
 refine Z5e ?_
 refine Zf ?_
 refine R1 ?_
 refine ols 18 rfl ?_ ?_
 ·intro hb2 hp2
  refine Zx ?_
  refine Zx ?_
  refine Zx ?_
  refine Z3s ?_
  refine Z1w ?_
  refine Zh ?_
  refine R3 ?_
  refine oq (op_nenil Tryz.underlying228 rfl rfl) ?_
  refine Zh ?_
  refine R5 ?_
  refine Z93 ?_
  refine R2 ?_
  refine Z7v ?_
  refine R8 ?_
  exact Z7w
 intro hb2 hp2
 refine Z2a ?_
 refine ol_q (wn_some rfl rfl rfl hb2 rfl) (op_move (v:=.pointer _) rfl) rfl ?_
 refine ol_q (wn_some rfl rfl rfl hb2 rfl) (op_nilck rfl) rfl ?_
 refine ol_q (wn_some rfl rfl rfl hb2 rfl) (op_field fld_274_0 rfl) rfl ?_
 refine ol_q (wn_some rfl rfl rfl hb2 rfl) (op_ld 0 sc_9 rfl rfl rfl) rfl ?_
 refine Z94 ?_
 refine ol_q (wn_some rfl rfl rfl hb2 rfl) (op_gt rfl rfl) rfl ?_
 refine Z1o ?_
 refine Z8 ?_ ?_
 ·intro hb3 hp3
  refine R3 ?_
  refine oq (op_nenil Tryz.underlying228 rfl rfl) ?_
  refine Zh ?_
  refine R5 ?_
  refine Z93 ?_
  refine R2 ?_
  refine Z7v ?_
  refine R8 ?_
  exact Z7w
 intro hb3 hp3
 refine R8 ?_
 refine oq (op_sslice_to _ Tryz.underlying9 rfl rfl (Int.toNat_of_nonneg (by omega)).symm (by omega)) ?_
 refine R10 ?_
 refine oq (op_sslice_from _ Tryz.underlying9 rfl rfl (Int.toNat_of_nonneg (by omega)).symm (by omega)) ?_
 refine R2 ?_
 refine Z7v ?_
 refine R8 ?_
 exact Z7w
theorem Put_calls {w0 w:World} {l:List HProp} (ao:Option Addr) (c:Nat) (bs:List UInt8) (A:Nat) (wd:Int) (hs:Sat w0 w ((Row 5 encU8 (.slice ao bs.length c) bs)::l)) (hA:A<18446744073709551616) (hbs:bs.length≤1000000) :
  Calls Tryz.prog 177 #[.slice ao bs.length c,.int .u64 (A:Int),.int .i64 wd] w (Ret w0 fun v l'=>∃ ao c,v=.slice ao (bs++putB A (clamp8 wd)).length c∧l'=Row 5 encU8 (.slice ao (bs++putB A (clamp8 wd)).length c) (bs++putB A (clamp8 wd))::l):=by
 refine calls_enter Tryz.func177 rfl rfl rfl hs ?_
 refine R7 ?_
 refine oq (op_max rfl rfl) ?_
 refine oq (op_min rfl rfl) ?_
 refine R4 ?_
 refine cd_loop (α:=Nat×Option Addr×Nat) (fun x=>[(0,.slice x.2.1 (bs++putB A x.1).length x.2.2),(1,.int .u64 ((A / 256 ^ x.1:Nat):Int)),(9,.int .i64 (clamp8 wd:Int)),(10,.int .i64 x.1)]) (fun x=>Row 5 encU8 (.slice x.2.1 (bs++putB A x.1).length x.2.2) (bs++putB A x.1)::l) (fun x=>x.1≤clamp8 wd) (fun x=>clamp8 wd-x.1) (0,ao,c) (Nat.zero_le _) ⟨by rw [putB,List.append_nil];rfl,congrArg (Value.int .u64) (show (A:Int)=_ by simp),congrArg (Value.int .i64) (clamp8_if wd),rfl,trivial⟩ (fun _ s=>by simpa [putB] using s) ?_
 rintro ⟨k,v1,v2⟩ hk f;dsimp only at hk ⊢;have hc:=clamp8_le wd;have hcd:(clamp8 wd:Int)=min (max wd 0) 8:=by unfold clamp8;omega
 refine Z3 ?_ ?_
 ·intro hb1 hp1
  refine R7 ?_
  refine oq (op_conv8 Tryz.underlying5 (by rw [Tryz.underlying41];rfl) rfl) ?_
  refine Z4w ?_;intro ao1
  refine Z2 ?_
  refine oi (os_append (E:=encU8) rfl sB_97 zv_5 rfl rfl rfl (fun w s=>(rds_row 1 rfl rfl) [] w s) rfl (by simp [putB_length];omega) (by unfold maxLen;simp [putB_length];omega)) ?_;rintro _ _ ⟨ao2,ac2,rfl,rfl⟩
  refine R5 ?_
  refine oq (op_shr_nat (m:=8) rfl rfl (by decide)) ?_
  refine R8 ?_
  have hk1:k<clamp8 wd:=by omega
  have e1:bs++putB A k++[UInt8.ofNat (A / 256 ^ k)]=bs++putB A (k+1):=by simp [putB]
  exact px_loop (k+1,ao2,ac2) hk1 (by dsimp only;omega) ⟨congrArg (fun q=>Value.slice ao2 (List.length q) ac2) e1,congrArg (Value.int .u64) (by simp [Nat.pow_succ,Nat.div_div_eq_div_mul]),rfl,congrArg (Value.int .i64) (by simp),trivial⟩ (fun _ s=>by rw [e1] at s;exact s.del 1)
 intro hb1 hp1
 refine R11 ?_
 have e1:k=clamp8 wd:=by omega
 subst e1
 exact Z8z
theorem Uint_calls {w0 w:World} {l:List HProp} (p:Nat) (r:RdS) (n:Int) (hs:Sat w0 w ((RdObj p r)::l))  :
  Calls Tryz.prog 116 #[.pointer (some ⟨p,0,none⟩),.int .i64 n] w (Ret w0 fun v l'=>v=.int .u64 (rdUint r n).1∧l'=RdObj p (rdUint r n).2::l):=by
 have hlen:=rdBytes_len r n
 simp only [rdUint]
 refine calls_enter Tryz.func116 rfl rfl rfl hs ?_
 refine R10 ?_
 refine Z4 ?_ ?_
 ·intro hb1 hp1
  rw [if_pos hp1] at *
  refine R7 ?_
  refine Z95 ?_
  refine R10 ?_
  refine Z27 ?_
  refine R5 ?_
  generalize hS:(rdBytes r _).1=S at *
  refine Zah ?_
  intro j hj f;(try dsimp only at hj ⊢)
  refine Z1u ?_ ?_
  ·intro hb2 hp2
   obtain ⟨j,rfl⟩:∃ i,j=i+1:=⟨j-1,by omega⟩
   have hd:=leNat_drop S j (by omega)
   have hb:=leNat_lt (S.drop (j+1))
   rw [List.length_drop] at hb
   have hb2:=Nat.pow_le_pow_right (show 0<256 by decide) (show S.length-(j+1)≤7 by omega)
   have hu:=(S.getD j 0).toNat_lt
   refine R6 ?_
   refine oq (op_shl_nat (m:=8) rfl rfl (by decide) (by omega)) ?_
   refine R2 ?_
   refine Zcg ?_
   refine oq (op_or64 rfl rfl (by omega) (by omega)) ?_
   refine R9 ?_
   exact Zai
  intro hb2 hp2
  refine R11 ?_
  have e1:j=0:=by omega
  subst e1
  exact Z2p
 intro hb1 hp1
 rw [if_neg hp1] at *
 refine R5 ?_
 refine Z95 ?_
 refine R10 ?_
 refine Z27 ?_
 refine R5 ?_
 generalize hS:(rdBytes r _).1=S at *
 refine Zah ?_
 intro j hj f;(try dsimp only at hj ⊢)
 refine Z1u ?_ ?_
 ·intro hb3 hp3
  obtain ⟨j,rfl⟩:∃ i,j=i+1:=⟨j-1,by omega⟩
  have hd:=leNat_drop S j (by omega)
  have hb:=leNat_lt (S.drop (j+1))
  rw [List.length_drop] at hb
  have hb2:=Nat.pow_le_pow_right (show 0<256 by decide) (show S.length-(j+1)≤7 by omega)
  have hu:=(S.getD j 0).toNat_lt
  refine R6 ?_
  refine oq (op_shl_nat (m:=8) rfl rfl (by decide) (by omega)) ?_
  refine R2 ?_
  refine Zcg ?_
  refine oq (op_or64 rfl rfl (by omega) (by omega)) ?_
  refine R9 ?_
  exact Zai
 intro hb3 hp3
 refine R11 ?_
 have e1:j=0:=by omega
 subst e1
 exact Z2p
theorem RPut_calls {w0 w:World} {l:List HProp} (k A:Nat) (wd:Int) (hs:Sat w0 w (l)) (hk:clamp8 wd=k) (hA:A<18446744073709551616) :
  Calls Tryz.prog 34 #[.int .u64 (A:Int),.int .i64 wd] w (Ret w0 fun v l'=>v=.string (B (putB A k))∧l'=l):=by
 induction k using Nat.strongRecOn generalizing w l A wd with | _ k ih=>?_
 refine calls_enter Tryz.func34 rfl rfl rfl hs ?_
 refine R10 ?_
 refine Z4 ?_ ?_
 ·intro hb1 hp1
  refine R6 ?_
  have e:k=0:=by subst hk;unfold clamp8;omega
  subst e
  exact px_ret1 rfl (v:=.string _) rfl (fun _ s=>s) ⟨rfl,rfl⟩
 intro hb1 hp1
 refine R3 ?_
 refine cd_drawe (M:=[]) mx [3,4,10] ?_
 refine Z4x ?_
 refine e_q 1 rfl (wn_none rfl) (op_remn (C:=256) rfl rfl (by first | decide | omega)) ?_
 refine e_q 2 rfl (wn_none rfl) (op_conv8 Tryz.underlying5 (by rw [Tryz.underlying41];rfl) rfl) ?_
 refine Z59 ?_
 refine e_q 6 rfl (wn_none rfl) (op_quon (C:=256) rfl rfl (by first | decide | omega) (by omega)) ?_
 refine e_q 7 rfl (wn_none rfl) (op_move (v:=.int _ _) rfl) ?_
 refine e_q 8 rfl (wn_none rfl) (op_min rfl rfl) ?_
 refine e_q 9 rfl (wn_none rfl) (op_sub rfl rfl (by omega) (by omega)) ?_
 refine et_2 (i1:=3) (i2:=10) (by kernel_rfl) ?_ ?_
 ·
  refine ei_i rfl rfl (wn_none rfl) (os_bslice (E:=encU8) [_] (ys:=[_]) sB_97 zv_5 rfl rfl rfl rfl (by decide)) rfl ?_;rintro _ _ ⟨ao1,rfl,rfl⟩;refine ⟨[_],rfl,?_⟩
  refine et_2 (i1:=4) (i2:=10) (by kernel_rfl) ?_ ?_
  ·
   refine Z96 ?_
   refine Z1c ?_
   refine Zaj ?_
   refine Z97 ?_
   refine e_q 12 rfl (wn_none rfl) (op_assign (v:=.string _) rfl) ?_
   refine Z9 ?_
   exact Z98
  refine Zaj ?_
  refine Z1d ?_
  refine Z96 ?_
  refine Z97 ?_
  refine e_q 12 rfl (wn_none rfl) (op_assign (v:=.string _) rfl) ?_
  refine Z9 ?_
  exact Z98
 refine ei_i rfl rfl (wn_none rfl) (os_call cb_34 rfl (fun w s=>ih _ (by rw [←hk,clamp8_pred hp1];exact Nat.lt_succ_self _) _ _   s rfl (by omega))) rfl ?_;rintro _ _ ⟨rfl,rfl⟩;refine ⟨[],rfl,?_⟩
 refine Z3t ?_
 refine ei_i rfl rfl (wn_none rfl) (os_bslice (E:=encU8) [_] (ys:=[_]) sB_97 zv_5 rfl rfl rfl rfl (by decide)) rfl ?_;rintro _ _ ⟨ao2,rfl,rfl⟩;refine ⟨[_],rfl,?_⟩
 refine Z1d ?_
 refine Z96 ?_
 refine Z97 ?_
 refine e_q 12 rfl (wn_none rfl) (op_assign (v:=.string _) rfl) ?_
 refine Z9 ?_
 exact Z98
theorem BPut_calls {w0 w:World} {l:List HProp} (ao:Option Addr) (c:Nat) (bs:List UInt8) (lo:Option Addr) (ln lc:Nat) (xs:List Bool) (hs:Sat w0 w ((Row 5 encU8 (.slice ao bs.length c) bs)::l)) (hr:Rds w0 l encBool lo xs) (hln:xs.length=ln) (hbs:bs.length≤1000) (hxs:xs.length≤2000) :
  Calls Tryz.prog 189 #[.slice ao bs.length c,.slice lo ln lc] w (Ret w0 fun v l'=>∃ ao c,v=.slice ao (bs++enc8 xs).length c∧l'=Row 5 encU8 (.slice ao (bs++enc8 xs).length c) (bs++enc8 xs)::l):=by
 subst hln
 have hL:∀ M,(bs++putB M (xs.length / 8+1)).length=bs.length+(xs.length / 8+1):=fun M=>by simp [putB_length]
 refine calls_enter Tryz.func189 rfl rfl rfl hs ?_
 refine R6 ?_
 refine Z4c ?_
 refine R6 ?_
 refine Z4d ?_
 refine oq (op_quonk (A:=xs.length) (C:=8) rfl rfl (by decide) (by omega)) ?_
 refine R1 ?_
 refine oi (os_appendn (E:=encU8) (xs.length / 8+1) (0) rfl sB_97 Tryz.underlying3 zv_5 rfl rfl rfl rfl (by omega) (by simp;omega) (by unfold maxLen;simp;omega)) ?_;rintro _ _ ⟨ao1,ac1,rfl,rfl⟩
 refine R6 ?_
 refine Z4d ?_
 refine R4 ?_
 refine cd_loop (α:=Nat) (fun i=>[(0,.slice ao1 (bs.length+(xs.length / 8+1)) ac1),(1,.slice lo xs.length lc),(5,.int .i64 bs.length),(16,.slice lo xs.length lc),(17,.int .i64 xs.length),(18,.int .i64 i)]) (fun i=>Row 5 encU8 (.slice ao1 (bs.length+(xs.length / 8+1)) ac1) (bs++putB (low (xs.take i)) (xs.length / 8+1))::l) (fun i=>i≤xs.length) (fun i=>xs.length-i) 0 (Nat.zero_le _) ⟨congrArg (fun q=>Value.slice ao1 q ac1) (by simp),rfl,rfl,rfl,rfl,rfl,trivial⟩ (fun _ s=>by simpa [putB_zero,low] using s) ?_
 intro i hi f;(try dsimp only at hi ⊢)
 refine Z3 ?_ ?_
 ·intro hb1 hp1
  have hi1:i<xs.length:=by omega
  have hML:=hL (low (xs.take i))
  have hst:=low_step xs i hi1
  refine R6 ?_
  refine oq (op_index _ sB_42 rfl rfl rfl (hr.cons _) rfl (by omega)) ?_
  refine oq (op_ldw sc_4 (hr.cons _) rfl (by omega) rfl) ?_
  refine R8 ?_
  refine Z4 ?_ ?_
  ·intro hb2 hp2
   rw [if_pos hb2] at hst
   have hps:=put_set bs (low (xs.take i)) (xs.length / 8+1) i (by omega) (low_take_lt xs i) (by rw [hML];omega)
   rw [←hst] at hps
   refine cd_drawt (M:=[]) mx [] 12 (by kernel_rfl) rfl rfl ?_
   dsimp only [List.take_succ_cons,List.take_zero,List.drop_succ_cons,List.drop_zero]
   refine R3 ?_
   refine rg_q (wn_none rfl) (op_quo rfl rfl (by omega) (by omega) (by omega)) rfl rfl ?_
   refine R1 ?_
   refine rg_q (wn_none rfl) (op_index (bs.length+i / 8) sB_97 rfl rfl (by omega) (rds_row 0 rfl rfl) (hL _) (by omega)) rfl rfl ?_
   refine rg_q (wn_none rfl) (op_ldw sc_5 (rds_row 0 rfl rfl) rfl (by omega) rfl) rfl rfl ?_
   refine R1 ?_
   refine rg_q (wn_none rfl) (op_remn (A:=i) (C:=8) rfl rfl (by decide)) rfl rfl ?_
   refine rg_q (wn_none rfl) (op_shl8 (m:=i % 8) 1 rfl rfl (by omega)) rfl rfl ?_
   refine rg_q (wn_none rfl) (op_or8 _ _ rfl rfl) rfl rfl ?_
   refine rg_q (wn_none rfl) (op_index (bs.length+i / 8) sB_97 rfl rfl (by omega) (rds_row 0 rfl rfl) (hL _) (by omega)) rfl rfl ?_
   refine rg_tail0 ?_
   refine oN (os_stsw  sc_5 rfl rfl rfl (by omega) rfl rfl) ?_;rintro _ _ ⟨rfl,rfl⟩
   refine R7 ?_
   exact px_loop (i+1) (by omega) (by omega) ⟨rfl,rfl,rfl,rfl,rfl,congrArg (Value.int .i64) (by simp),trivial⟩ (fun _ s=>by rw [hps] at s;exact s)
  intro hb2 hp2
  rw [if_neg (by simp [hb2])] at hst
  refine R7 ?_
  exact px_loop (i+1) (by omega) (by omega) ⟨rfl,rfl,rfl,rfl,rfl,congrArg (Value.int .i64) (by simp),trivial⟩ (fun _ s=>by rw [←hst] at s;exact s)
 intro hb1 hp1
 have e:i=xs.length:=by omega
 subst e
 rw [List.take_length]
 have hML:=hL (low xs)
 have hps:=put_set bs (low xs) (xs.length / 8+1) xs.length (by omega) (low_lt xs) (by rw [hML];omega)
 rw [enc8_full] at hps
 refine R6 ?_
 refine cd_drawt (M:=[]) mx [] 12 (by kernel_rfl) rfl rfl ?_
 dsimp only [List.take_succ_cons,List.take_zero,List.drop_succ_cons,List.drop_zero]
 refine R2 ?_
 refine rg_q (wn_none rfl) (op_len_slice Tryz.underlying97 rfl) rfl rfl ?_
 refine R1 ?_
 refine rg_q (wn_none rfl) (op_index (bs.length+xs.length / 8) sB_97 rfl rfl (by omega) (rds_row 0 rfl rfl) (hL _) (by omega)) rfl rfl ?_
 refine rg_q (wn_none rfl) (op_ldw sc_5 (rds_row 0 rfl rfl) rfl (by omega) rfl) rfl rfl ?_
 refine R1 ?_
 refine rg_q (wn_none rfl) (op_len_slice Tryz.underlying42 rfl) rfl rfl ?_
 refine rg_q (wn_none rfl) (op_remn (A:=xs.length) (C:=8) rfl rfl (by decide)) rfl rfl ?_
 refine rg_q (wn_none rfl) (op_shl8 (m:=xs.length % 8) 1 rfl rfl (by omega)) rfl rfl ?_
 refine rg_q (wn_none rfl) (op_or8 _ _ rfl rfl) rfl rfl ?_
 refine rg_q (wn_none rfl) (op_index (bs.length+xs.length / 8) sB_97 rfl rfl (by omega) (rds_row 0 rfl rfl) (hL _) (by omega)) rfl rfl ?_
 refine rg_tail0 ?_
 refine oN (os_stsw  sc_5 rfl rfl rfl (by omega) rfl rfl) ?_;rintro _ _ ⟨rfl,rfl⟩
 refine R8 ?_
 refine px_ret1 rfl (v:=.slice _ _ _) rfl (l':=Row 5 encU8 (.slice ao1 (bs++enc8 xs).length ac1) (bs++enc8 xs)::l) (fun _ s=>?_) ⟨ao1,ac1,congrArg (fun q=>Value.slice ao1 q ac1) (by simp [enc8_length]),rfl⟩
 rw [hps] at s
 rw [show (bs++enc8 xs).length=bs.length+(xs.length / 8+1) by simp [enc8_length]]
 exact s
theorem Len8_calls {w0 w:World} {l:List HProp} (c:UInt8) (hs:Sat w0 w (l))  :
  Calls Tryz.prog 159 #[.int .u8 (c.toNat:Int)] w (Ret w0 fun v l'=>v=.int .i64 (len8 c.toNat:Nat)∧l'=l):=by
 refine calls_enter Tryz.func159 rfl rfl rfl hs ?_
 refine R6 ?_
 refine oq (op_sidx c.toNat Tryz.underlying9 rfl rfl (by first | rfl | omega) (by show c.toNat<256;exact c.toNat_lt)) ?_
 refine oq (op_convint Tryz.underlying3 (by rw [Tryz.underlying5];rfl) rfl (Nat.lt_of_lt_of_le (UInt8.toNat_lt _) (by decide))) ?_
 refine R4 ?_
 exact px_ret1 rfl (v:=.int _ _) rfl (fun _ s=>s) ⟨congrArg (Value.int .i64) (len8_key _ (by decide +kernel) _ c.toNat_lt),rfl⟩
theorem BGet_calls {w0 w:World} {l:List HProp} (s:List UInt8) (most:Int) (hs:Sat w0 w (l)) (hs1:s.length≤100000) :
  Calls Tryz.prog 118 #[.string (B s),.int .i64 most] w (Ret w0 fun v l'=>∃ ao c,v=.tuple #[.slice ao (getD' s most).length c,.bool (getB s most).isSome]∧l'=Row 4 encBool (.slice ao (getD' s most).length c) (getD' s most)::l):=by
 refine calls_enter Tryz.func118 rfl rfl rfl hs ?_
 refine R8 ?_
 refine oq (op_seql rfl rfl) ?_
 refine R1 ?_
 refine ols 11 rfl ?_ ?_
 ·intro hb1 hp1
  refine Z2n ?_
  refine Z1e ?_
  refine Zq ?_
  refine Zh ?_
  refine R7 ?_
  have hE:getB s most=none:=getB_none (.inl (by assumption))
  have hG:getD' s most=[]:=by unfold getD';rw [hE];rfl
  exact Z99
 intro hb1 hp1
 have hne:s.length≠0:=fun h0=>hp1 (List.eq_nil_of_length_eq_zero h0)
 refine ol_q (wn_some rfl rfl rfl hb1 rfl) (op_move (v:=.string _) rfl) rfl ?_
 refine ol_q (wn_some rfl rfl rfl hb1 rfl) (op_move (v:=.string _) rfl) rfl ?_
 refine ol_q (wn_some rfl rfl rfl hb1 rfl) (op_len_string Tryz.underlying9 rfl) rfl ?_
 refine ol_q (wn_some rfl rfl rfl hb1 rfl) (op_sub rfl rfl (by omega) (by omega)) rfl ?_
 refine ol_q (wn_some rfl rfl rfl hb1 rfl) (op_sidx (s.length-1) Tryz.underlying9 rfl rfl (by first | rfl | omega) (by omega)) rfl ?_
 refine ol_q (wn_some rfl rfl rfl hb1 rfl) (op_eqn (C:=0) rfl rfl) rfl ?_
 refine Zf ?_
 refine Z8 ?_ ?_
 ·intro hb2 hp2
  have hnone:s=[]∨(s.getD (s.length-1) 0).toNat=0∧True:=by first | exact .inr ⟨hp2,trivial⟩ | exact .inl (by assumption)
  refine R7 ?_
  have hE:getB s most=none:=getB_none (hnone.elim .inl (fun h=>.inr (.inl h.1)))
  have hG:getD' s most=[]:=by unfold getD';rw [hE];rfl
  exact Z99
 intro hb2 hp2
 have hs0:s≠[]:=fun h0=>hne (by rw [h0];rfl)
 obtain ⟨hn,hn2,hn3⟩:=rowLen_eq s hs0 hp2
 have hl8:=len8_le (s.getD (s.length-1) 0).toNat_lt
 refine R4 ?_
 refine Z27 ?_
 refine R1 ?_
 refine Z3v ?_
 refine R2 ?_
 refine Z27 ?_
 refine R1 ?_
 refine oq (op_sidx (s.length-1) Tryz.underlying9 rfl rfl (by first | rfl | omega) (by omega)) ?_
 refine oi (os_call cb_159 rfl (fun w s=>Len8_calls _  s )) ?_;rintro _ l ⟨rfl,rfl⟩
 refine R12 ?_
 refine Z4 ?_ ?_
 ·intro hb3 hp3
  refine R7 ?_
  have hE:getB s most=none:=getB_none (.inr (.inr (by omega)))
  have hG:getD' s most=[]:=by unfold getD';rw [hE];rfl
  exact Z99
 intro hb3 hp3
 refine R4 ?_
 refine oi (os_make (E:=encBool) (rowLen s) (false) sB_42 zv_4 rfl rfl rfl hn.symm (by omega) (by unfold maxLen;omega)) ?_;rintro _ _ ⟨ao1,rfl,rfl⟩
 refine R6 ?_
 refine Z4d ?_
 refine R4 ?_
 refine cd_loop (α:=Nat) (fun i=>[(0,.string (B s)),(7,.slice ao1 (rowLen s) (rowLen s)),(37,.int .i64 (rowLen s)),(38,.int .i64 i)]) (fun i=>Row 4 encBool (.slice ao1 (rowLen s) (rowLen s)) (bitsOf (leNat s) i++List.replicate (rowLen s-i) false)::l) (fun i=>i≤rowLen s) (fun i=>rowLen s-i) 0 (Nat.zero_le _) ⟨rfl,congrArg (fun q=>Value.slice ao1 q (rowLen s)) (by simp),congrArg (Value.int .i64) (by simp),rfl,trivial⟩ (fun _ s=>by simpa [bitsOf] using s) ?_
 intro i hi f;(try dsimp only at hi ⊢)
 refine Z3 ?_ ?_
 ·intro hb4 hp4
  have hi1:i<rowLen s:=by omega
  have hLn:(bitsOf (leNat s) i++List.replicate (rowLen s-i) false).length=rowLen s:=by simp [bitsOf_length];omega
  have hbs:=bits_set (leNat s) (rowLen s) i hi1
  rw [bit_of] at hbs
  refine R14 ?_
  refine oq (op_quo rfl rfl (by omega) (by omega) (by omega)) ?_
  refine oq (op_sidx (i / 8) Tryz.underlying9 rfl rfl (by first | rfl | omega) (by omega)) ?_
  refine R1 ?_
  refine oq (op_remn (A:=i) (C:=8) rfl rfl (by decide)) ?_
  refine oq (op_shr_nat (m:=i % 8) rfl rfl (by show i % 8≤8;omega)) ?_
  refine oq (op_and1 rfl (Nat.lt_of_le_of_lt (Nat.div_le_self _ _) (UInt8.toNat_lt _)) rfl) ?_
  refine oq (op_eqn (C:=1) rfl rfl) ?_
  refine oq (op_index _ sB_42 rfl rfl rfl (rds_row 0 rfl rfl) (by simp [bitsOf_length];omega) (by omega)) ?_
  refine oN (os_stsw  sc_4 rfl rfl rfl (by omega) rfl rfl) ?_;rintro _ _ ⟨rfl,rfl⟩
  refine R7 ?_
  exact px_loop (i+1) (by omega) (by omega) ⟨rfl,rfl,rfl,congrArg (Value.int .i64) (by simp),trivial⟩ (fun _ s=>by rw [hbs] at s;exact s)
 intro hb4 hp4
 have e:i=rowLen s:=by omega
 subst e
 have e2:=getB_some (most:=most) hs0 (by assumption) (by omega)
 refine R12 ?_
 have hG:getD' s most=bitsOf (leNat s) (rowLen s):=by unfold getD';rw [e2];rfl
 refine px_ret2 rfl (v1:=.slice _ _ _) (v2:=.bool _) rfl rfl (l':=Row 4 encBool (.slice ao1 (getD' s most).length (rowLen s)) (getD' s most)::l) (fun _ s'=>?_) ⟨ao1,rowLen s,?_,rfl⟩
 ·rw [hG,bitsOf_length];simpa using s'
 rw [hG,bitsOf_length,e2];rfl
def valOK (v:Val):Bool:=decide (0≤v.stake∧1≤v.key.length∧v.key.length≤32)
/-- all stakes,from a sum on -/
def totF (s:Int):List Val→Option Int
  | []=>some s
  | v::r=>if valOK v=true∧s+v.stake<4611686018427387904 then totF (s+v.stake) r else none
theorem totF_drop {s:Int} {xs:List Val} {i:Nat} (h:i<xs.length):totF s (xs.drop i)=if valOK xs[i]=true∧s+xs[i].stake<4611686018427387904 then totF (s+xs[i].stake) (xs.drop (i+1)) else none:=by
  rw [List.drop_eq_getElem_cons h,totF]
theorem totF_end {s:Int} {xs:List Val} {i:Nat} (h:¬ i<xs.length):totF s (xs.drop i)=some s:=by
  rw [List.drop_eq_nil_of_le (by omega),totF]
theorem totF_rg {s n:Int} {xs:List Val} (h0:0≤s) (h1:s<4611686018427387904) (h:totF s xs=some n):0≤n∧n<4611686018427387904:=by
  induction xs generalizing s with
  | nil=>rw [totF] at h;cases h;exact ⟨h0,h1⟩
  | cons v r ih =>
    rw [totF] at h
    split at h
    · rename_i hc
      have:=of_decide_eq_true hc.1
      exact ih (by omega) (by omega) h
    · cases h
/-- the sum alone -/
def sumV:List Val→Int
  | []=>0
  | v::r=>v.stake+sumV r
theorem totF_iff {s:Int} {xs:List Val} (h0:0≤s) (h1:s<4611686018427387904):totF s xs=if (∀ v∈xs,valOK v=true)∧s+sumV xs<4611686018427387904 then some (s+sumV xs) else none:=by
  induction xs generalizing s with
  | nil=>rw [totF,if_pos ⟨fun v h=>(by cases h),by simp [sumV];exact h1⟩];simp [sumV]
  | cons v r ih =>
    rw [totF]
    by_cases hv:valOK v=true
    · have hb:=of_decide_eq_true hv
      by_cases hs:s+v.stake<4611686018427387904
      · rw [if_pos ⟨hv,hs⟩,ih (by omega) hs]
        have e:s+v.stake+sumV r=s+sumV (v::r):=by rw [sumV];omega
        rw [e]
        by_cases hr:(∀ u∈r,valOK u=true)∧s+sumV (v::r)<4611686018427387904
        · rw [if_pos hr,if_pos ⟨fun u hu=>by rcases List.mem_cons.1 hu with rfl | h;exact hv;exact hr.1 u h,hr.2⟩]
        · rw [if_neg hr,if_neg fun h=>hr ⟨fun u hu=>h.1 u (List.mem_cons_of_mem _ hu),h.2⟩]
      · rw [if_neg fun h=>hs h.2,if_neg fun h=>?_]
        have h2:=h.2
        rw [sumV] at h2
        have:∀ l:List Val,(∀ u∈l,valOK u=true)→0≤sumV l:=by
          intro l
          induction l with
          | nil=>intro _;simp [sumV]
          | cons a b ih2 =>
            intro hl
            have h3:=of_decide_eq_true (hl a List.mem_cons_self)
            have h4:=ih2 fun u hu=>hl u (List.mem_cons_of_mem _ hu)
            rw [sumV];omega
        have h5:=this r fun u hu=>h.1 u (List.mem_cons_of_mem _ hu)
        omega
    · rw [if_neg fun h=>hv h.1,if_neg fun h=>hv (h.1 v List.mem_cons_self)]
theorem sumV_append (x y:List Val):sumV (x++y)=sumV x+sumV y:=by
  induction x with
  | nil=>simp [sumV]
  | cons v r ih=>rw [List.cons_append,sumV,sumV,ih];omega
/-- a configuration's numbers,each with what it is at most -/
def numsC (q:Cfg) (n:Nat):List (Int×Int) :=
  [(q.epoch,32),(q.committee,if (n:Int)<16 then n else 16),(q.nodes,256),(q.orphans,64),(q.early,64),(q.quota,64),(q.peers,16),(q.bytes,256),(q.window,64),(q.ban,1048576),(q.decay,1048576),((n:Int),64)]
def inR (p:Int×Int):Bool:=decide (1≤p.1∧p.1≤p.2)
def goodC (q:Cfg) (xs:List Val):Bool:=(totF 0 xs).isSome && (numsC q xs.length).all inR
def greatC (xs:List Val):Bool:=decide (100<xs.length) || xs.any fun v=>decide (200<v.key.length)
def idxB (xs:List Bool) (b:Bool):Int:=match xs.findIdx? (fun x=>decide (b=x)) with | some i=>(i:Int) | none=>-1
theorem idxB_some {xs:List Bool} {b:Bool} {i:Nat} (hi:i<xs.length) (h:b=xs[i]) (hno:∀ j (hj:j<xs.length),j<i→b≠xs[j]):idxB xs b=i:=by
  unfold idxB
  rw [List.findIdx?_eq_some_iff_getElem.2 ⟨hi,by simpa using h,fun j hj=>by simpa using hno j (by omega) hj⟩]
theorem idxB_none {xs:List Bool} {b:Bool} (hno:∀ j (hj:j<xs.length),b≠xs[j]):idxB xs b=-1:=by
  unfold idxB
  rw [List.findIdx?_eq_none_iff.2]
  intro x hx
  obtain ⟨j,hj,rfl⟩:=List.mem_iff_getElem.1 hx
  simpa using hno j hj
theorem idxB_contains (xs:List Bool) (b:Bool):decide (0≤idxB xs b)=xs.contains b:=by
  unfold idxB
  cases e:xs.findIdx? (fun x=>decide (b=x)) with
  | none =>
    rw [List.findIdx?_eq_none_iff] at e
    symm
    dsimp only
    rw [show decide ((0:Int)≤-1)=false by decide]
    rw [Bool.eq_false_iff]
    intro h
    rw [List.contains_iff_mem] at h
    have:=e b h
    simp at this
  | some i =>
    obtain ⟨hi,h1,_⟩:=List.findIdx?_eq_some_iff_getElem.1 e
    dsimp only
    rw [decide_eq_true (by omega)]
    symm
    rw [List.contains_iff_mem]
    have:b=xs[i]:=of_decide_eq_true h1
    rw [this];exact List.getElem_mem hi
theorem In_calls {w0 w:World} {l:List HProp} (a b:Int) (hs:Sat w0 w (l))  :
  Calls Tryz.prog 92 #[.int .i64 a,.int .i64 b] w (Ret w0 fun v l'=>v=.bool (inR (a,b))∧l'=l):=by
 refine calls_enter Tryz.func92 rfl rfl rfl hs ?_
 refine R8 ?_
 refine ols 7 rfl ?_ ?_
 ·intro hb1 hp1
  refine Zv ?_
  refine Zv ?_
  refine Z6g ?_
  refine Zq ?_
  refine R4 ?_
  exact Zak
 intro hb1 hp1
 refine Z1e ?_
 refine Z24 ?_
 refine Zf ?_
 refine R4 ?_
 exact Zak
theorem Validator_calls {w0 w:World} {l:List HProp} (u:Val) (hs:Sat w0 w (l))  :
  Calls Tryz.prog 139 #[.agg (valC u).toArray] w (Ret w0 fun v l'=>v=.bool (valOK u && decide (u.stake<4611686018427387904))∧l'=l):=by
 refine calls_enter Tryz.func139 rfl rfl rfl hs ?_
 refine Z5 ?_;intro bx1
 refine R8 ?_
 refine ols 6 rfl ?_ ?_
 ·intro hb1 hp1
  refine ol_q (wn_some rfl rfl rfl hb1 rfl) (op_field fld_64_0 rfl) rfl ?_
  refine ol_q (wn_some rfl rfl rfl hb1 rfl) (op_ld 0 sc_3 rfl rfl (valC_a0 _)) rfl ?_
  refine Z5e ?_
  refine Zq ?_
  refine R1 ?_
  refine ols 11 rfl ?_ ?_
  ·intro hb2 hp2
   refine ol_q (wn_some rfl rfl rfl hb2 rfl) (op_field fld_64_1 rfl) rfl ?_
   refine ol_q (wn_some rfl rfl rfl hb2 rfl) (op_ld 0 sc_9 rfl rfl (valC_a1 _)) rfl ?_
   refine Z94 ?_
   refine ol_i (wn_some rfl rfl rfl hb2 rfl) (os_call cb_92 rfl (fun w s=>In_calls (b:=32) _  s )) rfl ?_;rintro _ _ ⟨rfl,rfl⟩
   refine Z1w ?_
   refine R4 ?_
   exact Z9a
  intro hb2 hp2
  refine Zx ?_
  refine Zx ?_
  refine Z1o ?_
  refine R4 ?_
  exact Z9a
 intro hb1 hp1
 refine Z1e ?_
 refine Z24 ?_
 refine Zf ?_
 refine Z3c ?_
 refine Z1n ?_
 refine R4 ?_
 exact Z9a
theorem Total_calls {w0 w:World} {l:List HProp} (ao:Option Addr) (c:Nat) (xs:List Val) (hs:Sat w0 w (l)) (hr:Rds w0 l encVal ao xs) (hxl:xs.length≤1000000) :
  Calls Tryz.prog 91 #[.slice ao xs.length c] w (Ret w0 fun v l'=>v=.tuple #[.int .i64 ((totF 0 xs).getD 0),.bool (totF 0 xs).isSome]∧l'=l):=by
 refine calls_enter Tryz.func91 rfl rfl rfl hs ?_
 refine R12 ?_
 refine Z2d ?_
 refine R4 ?_
 refine cd_loop2 (α:=Nat×Int) [(2,4),(6,6),(9,27)] (fun x=>[(4,.int .i64 x.2),(9,.int .i64 (x.1:Int))]) (fun _=>_) (fun x=>x.1≤xs.length∧0≤x.2∧x.2<4611686018427387904∧totF 0 xs=totF x.2 (xs.drop x.1)) (fun x=>xs.length-x.1) (0,0) ⟨Nat.zero_le _,by decide,by decide,rfl⟩ ⟨rfl,rfl,trivial⟩ (fun _ s=>s) ?_
 rintro ⟨i,s⟩ ⟨hi,hs0,hs1,heq⟩ f;(try dsimp only at hi hs0 hs1 heq ⊢)
 refine Z3 ?_ ?_
 ·intro hb1 hp1
  refine R5 ?_
  refine oq (op_index _ sB_22 rfl rfl rfl hr rfl (by omega)) ?_
  refine oq (op_ldaw (L:=valC _) ag_64 hr rfl (by omega) rfl (valC_ta _)) ?_
  refine Z5h ?_;intro bx1
  refine Z5i ?_
  refine R5 ?_
  refine oi (os_call cb_139 rfl (fun w s=>Validator_calls _  s )) ?_;rintro _ _ ⟨rfl,rfl⟩
  refine R2 ?_
  refine ols 16 rfl ?_ ?_
  ·intro hb2 hp2
   have hvo:¬ (valOK xs[i]=true∧xs[i].stake<4611686018427387904):=fun h=>by have h3:=hb2;simp [h.1] at h3;omega
   refine Zx ?_
   refine Zx ?_
   refine Z3s ?_
   refine Z1w ?_
   refine Zh ?_
   refine R12 ?_
   have e:totF 0 xs=none:=by rw [heq,totF_drop (by omega),if_neg (fun h=>hvo ⟨h.1,by omega⟩)]
   rw [e]
   exact Z5j
  intro hb2 hp2
  have hvo:valOK xs[i]=true∧xs[i].stake<4611686018427387904:=by simpa using hb2
  have hvo2:=of_decide_eq_true hvo.1
  refine Z2a ?_
  refine ol_q (wn_some rfl rfl rfl hb2 rfl) (op_field fld_64_0 rfl) rfl ?_
  refine ol_q (wn_some rfl rfl rfl hb2 rfl) (op_ld 0 sc_3 rfl rfl (valC_a0 _)) rfl ?_
  refine ol_q (wn_some rfl rfl rfl hb2 rfl) (op_add rfl rfl (by omega) (by omega)) rfl ?_
  refine Z7p ?_
  refine Z1o ?_
  refine Z8 ?_ ?_
  ·intro hb3 hp3
   refine R12 ?_
   have e:totF 0 xs=none:=by rw [heq,totF_drop (by omega),if_neg (by omega)]
   rw [e]
   exact Z5j
  intro hb3 hp3
  refine R15 ?_
  have e1:totF 0 xs=totF (s+xs[i].stake) (xs.drop (i+1)):=by rw [heq,totF_drop (by omega),if_pos ⟨hvo.1,by omega⟩]
  refine px_loop2 (i+1,s+xs[i].stake) ⟨by dsimp only;omega,by dsimp only;omega,by dsimp only;omega,e1⟩ (by (try dsimp only);omega) ⟨rfl,congrArg (Value.int .i64) (by simp),trivial⟩ ?_ (fun _ s=>(s.del 0))
  exact Z0
 intro hb1 hp1
 refine R12 ?_
 have e:totF 0 xs=some s:=by rw [heq,totF_end (by omega)]
 rw [e]
 exact px_ret2 rfl (v1:=.int _ _) (v2:=.bool _) rfl rfl (fun _ s=>s) ⟨rfl,rfl⟩
theorem Great_calls {w0 w:World} {l:List HProp} (ao:Option Addr) (c:Nat) (xs:List Val) (n1 n2 n3 n4 n5 n6 n7 n8 n9 n10 n11:Int) (hs:Sat w0 w (l)) (hr:Rds w0 l encVal ao xs) :
  Calls Tryz.prog 5 #[.agg (cfgC ⟨⟨ao,xs.length,c⟩,n1,n2,n3,n4,n5,n6,n7,n8,n9,n10,n11⟩).toArray] w (Ret w0 fun v l'=>v=.bool (greatC xs)∧l'=l):=by
 refine calls_enter Tryz.func5 rfl rfl rfl hs ?_
 refine Z5 ?_;intro bx1
 refine R7 ?_
 refine Z2d ?_
 refine Z6 ?_ ?_
 ·intro hb1 hp1
  refine R6 ?_
  exact px_ret1 rfl (v:=.bool _) rfl (fun _ s=>(s.del 0)) ⟨congrArg Value.bool (by unfold greatC;rw [decide_eq_true (by omega)];rfl),rfl⟩
 intro hb1 hp1
 refine R6 ?_
 refine Z2d ?_
 refine R4 ?_
 refine cd_loop2 (α:=Nat) [(2,2),(4,4),(12,20)] (fun x=>[(12,.int .i64 (x:Int))]) (fun _=>_) (fun x=>x≤xs.length∧∀ j (h:j<xs.length),j<x→xs[j].key.length≤200) (fun x=>xs.length-x) 0 ⟨Nat.zero_le _,fun j h h2=>absurd h2 (Nat.not_lt_zero _)⟩ ⟨rfl,trivial⟩ (fun _ s=>s) ?_
 rintro i ⟨hi,hno⟩ f;(try dsimp only at hi hno ⊢)
 refine Z3 ?_ ?_
 ·intro hb2 hp2
  refine R5 ?_
  refine oq (op_index _ sB_22 rfl rfl rfl (hr.cons _) rfl (by omega)) ?_
  refine oq (op_ldaw (L:=valC _) ag_64 (hr.cons _) rfl (by omega) rfl (valC_ta _)) ?_
  refine Z5h ?_;intro bx2
  refine Z5i ?_
  refine R5 ?_
  refine Z27 ?_
  refine Z6 ?_ ?_
  ·intro hb3 hp3
   have hk1:=of_decide_eq_true hb3
   refine R10 ?_
   exact px_ret1 rfl (v:=.bool _) rfl (fun _ s=>((s.del 1).del 0)) ⟨congrArg Value.bool (by unfold greatC;symm;rw [Bool.or_eq_true];right;exact List.any_eq_true.2 ⟨xs[i],List.getElem_mem _,decide_eq_true (by omega)⟩),rfl⟩
  intro hb3 hp3
  have hk1:=of_decide_eq_false hb3
  refine R7 ?_
  refine px_loop2 (i+1) ⟨by omega,fun j h h2=>by rcases Nat.lt_succ_iff_lt_or_eq.1 h2 with h3 | h3;exact hno j h h3;subst h3;omega⟩ (by (try dsimp only);omega) ⟨congrArg (Value.int .i64) (by simp),trivial⟩ ?_ (fun _ s=>(s.del 0))
  exact Z0
 intro hb2 hp2
 refine R10 ?_
 exact px_ret1 rfl (v:=.bool _) rfl (fun _ s=>(s.del 0)) ⟨congrArg Value.bool (by unfold greatC;symm;rw [Bool.or_eq_false_iff];refine ⟨decide_eq_false (by omega),List.any_eq_false.2 fun u hu=>?_⟩;obtain ⟨j,hj,rfl⟩:=List.mem_iff_getElem.1 hu;have:=hno j hj (by omega);simp;omega),rfl⟩
theorem Index_calls {w0 w:World} {l:List HProp} (ao:Option Addr) (c:Nat) (xs:List Bool) (b:Bool) (hs:Sat w0 w (l)) (hr:Rds w0 l encBool ao xs) (hxl:xs.length≤1000000) :
  Calls Tryz.prog 140 #[.slice ao xs.length c,.bool b] w (Ret w0 fun v l'=>v=.int .i64 (idxB xs b)∧l'=l):=by
 refine calls_enter Tryz.func140 rfl rfl rfl hs ?_
 refine R7 ?_
 refine Z4d ?_
 refine R4 ?_
 refine cd_loop2 (α:=Nat) [(4,5),(8,18)] (fun x=>[(8,.int .i64 (x:Int))]) (fun _=>_) (fun x=>x≤xs.length∧∀ j (h:j<xs.length),j<x→b≠xs[j]) (fun x=>xs.length-x) 0 ⟨Nat.zero_le _,fun j h h2=>absurd h2 (Nat.not_lt_zero _)⟩ ⟨rfl,trivial⟩ (fun _ s=>s) ?_
 rintro i ⟨hi,hno⟩ f;(try dsimp only at hi hno ⊢)
 refine Z3 ?_ ?_
 ·intro hb1 hp1
  refine R13 ?_
  refine oq (op_index _ sB_42 rfl rfl rfl hr rfl (by omega)) ?_
  refine oq (op_ldw sc_4 hr rfl (by omega) rfl) ?_
  refine oq (op_beql Tryz.underlying4 rfl rfl) ?_
  refine Z8 ?_ ?_
  ·intro hb2 hp2
   have hbb:b=xs[i]:=by simpa using hb2
   refine R11 ?_
   exact px_ret1 rfl (v:=.int _ _) rfl (fun _ s=>s) ⟨congrArg (Value.int .i64) ((idxB_some (by omega) hbb hno).symm),rfl⟩
  intro hb2 hp2
  have hbb:b≠xs[i]:=by simpa using hb2
  refine R7 ?_
  refine px_loop2 (i+1) ⟨by omega,fun j h h2=>by rcases Nat.lt_succ_iff_lt_or_eq.1 h2 with h3 | h3;exact hno j h h3;subst h3;exact hbb⟩ (by (try dsimp only);omega) ⟨congrArg (Value.int .i64) (by simp),trivial⟩ ?_ (fun _ s=>s)
  exact Z0
 intro hb1 hp1
 refine R10 ?_
 exact px_ret1 rfl (v:=.int _ _) rfl (fun _ s=>s) ⟨congrArg (Value.int .i64) ((idxB_none fun j hj=>hno j hj (by omega)).symm),rfl⟩
theorem Contains_calls {w0 w:World} {l:List HProp} (ao:Option Addr) (c:Nat) (xs:List Bool) (b:Bool) (hs:Sat w0 w (l)) (hr:Rds w0 l encBool ao xs) (hxl:xs.length≤1000000) :
  Calls Tryz.prog 93 #[.slice ao xs.length c,.bool b] w (Ret w0 fun v l'=>v=.bool (xs.contains b)∧l'=l):=by
 refine calls_enter Tryz.func93 rfl rfl rfl hs ?_
 refine R7 ?_
 refine oi (os_call cb_140 rfl (fun w s=>Index_calls _ _ _ _  s hr (by first | omega | (simp;done) | (simp;omega)))) ?_;rintro _ _ ⟨rfl,rfl⟩
 refine R5 ?_
 exact px_ret1 rfl (v:=.bool _) rfl (fun _ s=>s) ⟨congrArg Value.bool (by rw [←idxB_contains]),rfl⟩
theorem WGood_calls {w0 w:World} {l:List HProp} (k sl:Int) (tg:Root) (mb:Int) (bd:Nat) (bo:Option Addr) (bc:Nat) (bits:List Bool) (tag:Tag) (hs:Sat w0 w (l)) (hr:Rds w0 l encBool bo bits) (hxl:bits.length≤1000) (hbd:bd<18446744073709551616) :
  Calls Tryz.prog 121 #[.agg (msgC ⟨k,sl,tg,mb,bd,⟨bo,bits.length,bc⟩,tag⟩).toArray] w (Ret w0 fun v l'=>v=.bool (goodW k sl mb bd bits)∧l'=l):=by
 refine calls_enter Tryz.func121 rfl rfl rfl hs ?_
 refine Z5 ?_;intro bx1
 refine R6 ?_
 refine Z5k ?_
 refine R2 ?_
 refine ols 6 rfl ?_ ?_
 ·intro hb1 hp1
  refine Z1e ?_
  refine Z24 ?_
  refine Zq ?_
  refine Z1t ?_
  refine Zr ?_
  refine Z1t ?_
  refine Zr ?_
  refine Z3c ?_
  refine Z47 ?_
  refine Z4a ?_
  refine Z4v ?_
  refine Z2g ?_
  exact Z16
 intro hb1 hp1
 refine ol_q (wn_some rfl rfl rfl hb1 rfl) (op_field fld_46_1 rfl) rfl ?_
 refine ol_q (wn_some rfl rfl rfl hb1 rfl) (op_ld 0 sc_3 rfl rfl (show (msgC _).toArray[1]? = some (.int .i64 sl) from msgC_a1 _)) rfl ?_
 refine Z3r ?_
 refine Zf ?_
 refine R1 ?_
 refine ols 11 rfl ?_ ?_
 ·intro hb2 hp2
  refine Zx ?_
  refine Z3s ?_
  refine Z1w ?_
  refine Z1t ?_
  refine Zr ?_
  refine Z3c ?_
  refine Z47 ?_
  refine Z4a ?_
  refine Z4v ?_
  refine Z2g ?_
  exact Z16
 intro hb2 hp2
 refine ol_q (wn_some rfl rfl rfl hb2 rfl) (op_field fld_46_3 rfl) rfl ?_
 refine ol_q (wn_some rfl rfl rfl hb2 rfl) (op_ld 0 sc_3 rfl rfl (show (msgC _).toArray[34]? = some (.int .i64 mb) from msgC_a34 _)) rfl ?_
 refine Z49 ?_
 refine Z1o ?_
 refine R1 ?_
 refine ols 16 rfl ?_ ?_
 ·intro hb3 hp3
  refine Z1b ?_
  refine Z4u ?_
  refine Z25 ?_
  refine Z3c ?_
  refine Z47 ?_
  refine Z4a ?_
  refine Z4v ?_
  refine Z2g ?_
  exact Z16
 intro hb3 hp3
 refine ol_q (wn_some rfl rfl rfl hb3 rfl) (op_field fld_46_3 rfl) rfl ?_
 refine ol_q (wn_some rfl rfl rfl hb3 rfl) (op_ld 0 sc_3 rfl rfl (show (msgC _).toArray[34]? = some (.int .i64 mb) from msgC_a34 _)) rfl ?_
 refine Z3g ?_
 refine Z1v ?_
 refine R1 ?_
 refine ols 21 rfl ?_ ?_
 ·intro hb4 hp4
  refine Z28 ?_
  refine Z28 ?_
  refine Z28 ?_
  refine Z28 ?_
  refine Z47 ?_
  refine Z4a ?_
  refine Z28 ?_
  refine oq (op_pick_t (v:=.bool _) rfl hb4 rfl) ?_
  refine Zh ?_
  refine R6 ?_
  exact Z16
 intro hb4 hp4
 refine ol_q (wn_some rfl rfl rfl hb4 rfl) (op_field fld_46_0 rfl) rfl ?_
 refine ol_q (wn_some rfl rfl rfl hb4 rfl) (op_ld 0 sc_3 rfl rfl (show (msgC _).toArray[0]? = some (.int .i64 k) from msgC_a0 _)) rfl ?_
 refine ol_q (wn_some rfl rfl rfl hb4 rfl) (op_ne rfl rfl) rfl ?_
 refine ol_q (wn_some rfl rfl rfl hb4 rfl) (op_move (v:=.bool _) rfl) rfl ?_
 refine ols 25 rfl ?_ ?_
 ·intro hb5 hp5
  refine ol_q (wn_some rfl rfl rfl hb5 rfl) (op_field fld_46_4 rfl) rfl ?_
  refine ol_q (wn_some rfl rfl rfl hb5 rfl) (op_ld 0 sc_41 rfl rfl (show (msgC _).toArray[35]? = some (.int .u64 (bd:Int)) from msgC_a35 _)) rfl ?_
  refine ol_q (wn_some rfl rfl rfl hb5 rfl) (op_ne rfl rfl) rfl ?_
  refine ol_q (wn_some rfl rfl rfl hb4 rfl) (op_pick_t (v:=.bool _) rfl hb5 rfl) rfl ?_
  refine oq (op_pick_f (v:=.bool _) rfl hb4 rfl) ?_
  refine Z8 ?_ ?_
  ·intro hb6 hp6
   refine R6 ?_
   exact Z16
  intro hb6 hp6
  refine R5 ?_
  refine Z3w ?_
  refine Z6 ?_ ?_
  ·intro hb7 hp7
   refine R2 ?_
   refine Z3i ?_
   refine R2 ?_
   refine ols 37 rfl ?_ ?_
   ·intro hb8 hp8
    refine ol_q (wn_some rfl rfl rfl hb8 rfl) (op_field fld_46_5 rfl) rfl ?_
    refine ol_q (wn_some rfl rfl rfl hb8 rfl) (op_ld 0 sc_42 rfl rfl (show (msgC _).toArray[36]? = some (.slice bo bits.length bc) from msgC_a36 _)) rfl ?_
    refine ol_q (wn_some rfl rfl rfl hb8 rfl) (op_len_slice Tryz.underlying42 rfl) rfl ?_
    refine ol_q (wn_some rfl rfl rfl hb8 rfl) (op_le rfl rfl) rfl ?_
    refine oq (op_pick_t (v:=.bool _) rfl hb8 rfl) ?_
    refine R1 ?_
    refine ols 43 rfl ?_ ?_
    ·intro hb9 hp9
     refine ol_q (wn_some rfl rfl rfl hb9 rfl) (op_field fld_46_5 rfl) rfl ?_
     refine ol_q (wn_some rfl rfl rfl hb9 rfl) (op_ld 0 sc_42 rfl rfl (show (msgC _).toArray[36]? = some (.slice bo bits.length bc) from msgC_a36 _)) rfl ?_
     refine ol_i (wn_some rfl rfl rfl hb9 rfl) (os_call cb_93 rfl (fun w s=>Contains_calls _ _ _ _  s (hr.cons _) (by first | omega | (simp;done) | (simp;omega)))) rfl ?_;rintro _ _ ⟨rfl,rfl⟩
     refine oq (op_pick_t (v:=.bool _) rfl hb9 rfl) ?_
     refine R5 ?_
     exact Z16
    intro hb9 hp9
    refine Z5l ?_
    refine Z5l ?_
    refine Z5l ?_
    refine oq (op_pick_f (v:=.bool _) rfl hb9 rfl) ?_
    refine R5 ?_
    exact Z16
   intro hb8 hp8
   refine ol_skip (wn_some rfl rfl rfl hb8 rfl) rfl ?_
   refine ol_skip (wn_some rfl rfl rfl hb8 rfl) rfl ?_
   refine ol_skip (wn_some rfl rfl rfl hb8 rfl) rfl ?_
   refine ol_skip (wn_some rfl rfl rfl hb8 rfl) rfl ?_
   refine oq (op_pick_f (v:=.bool _) rfl hb8 rfl) ?_
   refine Z1t ?_
   refine Z1n ?_
   refine R5 ?_
   exact Z16
  intro hb7 hp7
  refine R4 ?_
  refine Z3w ?_
  refine R2 ?_
  refine ols 51 rfl ?_ ?_
  ·intro hb10 hp10
   refine Z5m ?_
   refine Z5m ?_
   refine Z5m ?_
   refine oq (op_pick_t (v:=.bool _) rfl hb10 rfl) ?_
   refine R1 ?_
   refine ol_q (wn_some rfl rfl rfl rfl rfl) (op_field fld_46_5 rfl) rfl ?_
   refine Zc6 ?_
   refine ol_q (wn_some rfl rfl rfl rfl rfl) (op_eq rfl rfl) rfl ?_
   refine Zr ?_
   refine R4 ?_
   exact Z16
  intro hb10 hp10
  refine ol_q (wn_some rfl rfl rfl hb10 rfl) (op_field fld_46_0 rfl) rfl ?_
  refine ol_q (wn_some rfl rfl rfl hb10 rfl) (op_ld 0 sc_3 rfl rfl (show (msgC _).toArray[0]? = some (.int .i64 k) from msgC_a0 _)) rfl ?_
  refine ol_q (wn_some rfl rfl rfl hb10 rfl) (op_eq rfl rfl) rfl ?_
  refine oq (op_pick_f (v:=.bool _) rfl hb10 rfl) ?_
  refine R1 ?_
  refine ols 56 rfl ?_ ?_
  ·intro hb11 hp11
   refine ol_q (wn_some rfl rfl rfl hb11 rfl) (op_field fld_46_5 rfl) rfl ?_
   refine Zc5 ?_
   refine ol_q (wn_some rfl rfl rfl hb11 rfl) (op_eq rfl rfl) rfl ?_
   refine oq (op_pick_t (v:=.bool _) rfl hb11 rfl) ?_
   refine R4 ?_
   exact Z16
  intro hb11 hp11
  refine Z37 ?_
  refine Z37 ?_
  refine Z37 ?_
  refine Z37 ?_
  refine oq (op_pick_f (v:=.bool _) rfl hb11 rfl) ?_
  refine R4 ?_
  exact Z16
 intro hb5 hp5
 refine Z1p ?_
 refine Z1p ?_
 refine Z1p ?_
 refine ol_q (wn_some rfl rfl rfl hb4 rfl) (op_pick_f (v:=.bool _) rfl hb5 rfl) rfl ?_
 refine oq (op_pick_f (v:=.bool _) rfl hb4 rfl) ?_
 refine Zi ?_
 refine R5 ?_
 refine Z3w ?_
 refine Z6 ?_ ?_
 ·intro hb12 hp12
  refine R2 ?_
  refine Z3i ?_
  refine R2 ?_
  refine ols 37 rfl ?_ ?_
  ·intro hb13 hp13
   refine ol_q (wn_some rfl rfl rfl hb13 rfl) (op_field fld_46_5 rfl) rfl ?_
   refine ol_q (wn_some rfl rfl rfl hb13 rfl) (op_ld 0 sc_42 rfl rfl (show (msgC _).toArray[36]? = some (.slice bo bits.length bc) from msgC_a36 _)) rfl ?_
   refine ol_q (wn_some rfl rfl rfl hb13 rfl) (op_len_slice Tryz.underlying42 rfl) rfl ?_
   refine ol_q (wn_some rfl rfl rfl hb13 rfl) (op_le rfl rfl) rfl ?_
   refine oq (op_pick_t (v:=.bool _) rfl hb13 rfl) ?_
   refine R1 ?_
   refine ols 43 rfl ?_ ?_
   ·intro hb14 hp14
    refine ol_q (wn_some rfl rfl rfl hb14 rfl) (op_field fld_46_5 rfl) rfl ?_
    refine ol_q (wn_some rfl rfl rfl hb14 rfl) (op_ld 0 sc_42 rfl rfl (show (msgC _).toArray[36]? = some (.slice bo bits.length bc) from msgC_a36 _)) rfl ?_
    refine ol_i (wn_some rfl rfl rfl hb14 rfl) (os_call cb_93 rfl (fun w s=>Contains_calls _ _ _ _  s (hr.cons _) (by first | omega | (simp;done) | (simp;omega)))) rfl ?_;rintro _ _ ⟨rfl,rfl⟩
    refine oq (op_pick_t (v:=.bool _) rfl hb14 rfl) ?_
    refine R5 ?_
    exact Z16
   intro hb14 hp14
   refine Z5n ?_
   refine Z5n ?_
   refine Z5n ?_
   refine oq (op_pick_f (v:=.bool _) rfl hb14 rfl) ?_
   refine R5 ?_
   exact Z16
  intro hb13 hp13
  refine Z38 ?_
  refine Z38 ?_
  refine Z38 ?_
  refine Z38 ?_
  refine oq (op_pick_f (v:=.bool _) rfl hb13 rfl) ?_
  refine Z1t ?_
  refine Z1n ?_
  refine R5 ?_
  exact Z16
 intro hb12 hp12
 refine R4 ?_
 refine Z3w ?_
 refine R2 ?_
 refine ols 51 rfl ?_ ?_
 ·intro hb15 hp15
  refine ol_skip (wn_some rfl rfl rfl hb15 rfl) rfl ?_
  refine ol_skip (wn_some rfl rfl rfl hb15 rfl) rfl ?_
  refine ol_skip (wn_some rfl rfl rfl hb15 rfl) rfl ?_
  refine oq (op_pick_t (v:=.bool _) rfl hb15 rfl) ?_
  refine R1 ?_
  refine ol_q (wn_some rfl rfl rfl rfl rfl) (op_field fld_46_5 rfl) rfl ?_
  refine Zc6 ?_
  refine ol_q (wn_some rfl rfl rfl rfl rfl) (op_eq rfl rfl) rfl ?_
  refine Zr ?_
  refine R4 ?_
  exact Z16
 intro hb15 hp15
 refine ol_q (wn_some rfl rfl rfl hb15 rfl) (op_field fld_46_0 rfl) rfl ?_
 refine ol_q (wn_some rfl rfl rfl hb15 rfl) (op_ld 0 sc_3 rfl rfl (show (msgC _).toArray[0]? = some (.int .i64 k) from msgC_a0 _)) rfl ?_
 refine ol_q (wn_some rfl rfl rfl hb15 rfl) (op_eq rfl rfl) rfl ?_
 refine oq (op_pick_f (v:=.bool _) rfl hb15 rfl) ?_
 refine R1 ?_
 refine ols 56 rfl ?_ ?_
 ·intro hb16 hp16
  refine ol_q (wn_some rfl rfl rfl hb16 rfl) (op_field fld_46_5 rfl) rfl ?_
  refine ol_q (wn_some rfl rfl rfl hb16 rfl) (op_ld 0 sc_42 rfl rfl (show (msgC _).toArray[36]? = some (.slice bo bits.length bc) from msgC_a36 _)) rfl ?_
  refine ol_q (wn_some rfl rfl rfl hb16 rfl) (op_len_slice Tryz.underlying42 rfl) rfl ?_
  refine ol_q (wn_some rfl rfl rfl hb16 rfl) (op_eq rfl rfl) rfl ?_
  refine oq (op_pick_t (v:=.bool _) rfl hb16 rfl) ?_
  refine R4 ?_
  exact Z16
 intro hb16 hp16
 refine ol_skip (wn_some rfl rfl rfl hb16 rfl) rfl ?_
 refine ol_skip (wn_some rfl rfl rfl hb16 rfl) rfl ?_
 refine ol_skip (wn_some rfl rfl rfl hb16 rfl) rfl ?_
 refine ol_skip (wn_some rfl rfl rfl hb16 rfl) rfl ?_
 refine oq (op_pick_f (v:=.bool _) rfl hb16 rfl) ?_
 refine R4 ?_
 exact Z16
theorem WRGood_calls {w0 w:World} {l:List HProp} (k sl:Int) (tg:Root) (mb:Int) (bd:Nat) (bo:Option Addr) (bc:Nat) (bits:List Bool) (tag:Tag) (hs:Sat w0 w (l)) (hr:Rds w0 l encBool bo bits) (hxl:bits.length≤1000) (hbd:bd<18446744073709551616) :
  Calls Tryz.prog 126 #[.agg (msgC ⟨k,sl,tg,mb,bd,⟨bo,bits.length,bc⟩,tag⟩).toArray] w (Ret w0 fun v l'=>v=.bool (goodW k sl mb bd bits)∧l'=l):=by
 refine calls_enter Tryz.func126 rfl rfl rfl hs ?_
 refine Z5 ?_;intro bx1
 refine R6 ?_
 refine Z3w ?_
 refine R2 ?_
 refine ols 9 rfl ?_ ?_
 ·intro hb1 hp1
  refine Z1e ?_
  refine Z24 ?_
  refine Zq ?_
  refine Z1t ?_
  refine Zr ?_
  refine Z1t ?_
  refine Zr ?_
  refine Z1t ?_
  refine Zr ?_
  refine Z1t ?_
  refine Z2g ?_
  exact Z16
 intro hb1 hp1
 refine ol_q (wn_some rfl rfl rfl hb1 rfl) (op_field fld_46_0 rfl) rfl ?_
 refine ol_q (wn_some rfl rfl rfl hb1 rfl) (op_ld 0 sc_3 rfl rfl (show (msgC _).toArray[0]? = some (.int .i64 k) from msgC_a0 _)) rfl ?_
 refine Z3r ?_
 refine Zf ?_
 refine R1 ?_
 refine ols 14 rfl ?_ ?_
 ·intro hb2 hp2
  refine Zx ?_
  refine Z3s ?_
  refine Z1w ?_
  refine Z1t ?_
  refine Zr ?_
  refine Z1t ?_
  refine Zr ?_
  refine Z1t ?_
  refine Z2g ?_
  exact Z16
 intro hb2 hp2
 refine ol_q (wn_some rfl rfl rfl hb2 rfl) (op_field fld_46_1 rfl) rfl ?_
 refine ol_q (wn_some rfl rfl rfl hb2 rfl) (op_ld 0 sc_3 rfl rfl (show (msgC _).toArray[1]? = some (.int .i64 sl) from msgC_a1 _)) rfl ?_
 refine Z49 ?_
 refine Z1o ?_
 refine R1 ?_
 refine ols 19 rfl ?_ ?_
 ·intro hb3 hp3
  refine Z1b ?_
  refine Z4u ?_
  refine Z25 ?_
  refine Z1t ?_
  refine Zr ?_
  refine Z1t ?_
  refine Z2g ?_
  exact Z16
 intro hb3 hp3
 refine ol_q (wn_some rfl rfl rfl hb3 rfl) (op_field fld_46_1 rfl) rfl ?_
 refine ol_q (wn_some rfl rfl rfl hb3 rfl) (op_ld 0 sc_3 rfl rfl (show (msgC _).toArray[1]? = some (.int .i64 sl) from msgC_a1 _)) rfl ?_
 refine Z3g ?_
 refine Z1v ?_
 refine R1 ?_
 refine ols 24 rfl ?_ ?_
 ·intro hb4 hp4
  refine Z28 ?_
  refine Z28 ?_
  refine Z28 ?_
  refine oq (op_pick_t (v:=.bool _) rfl hb4 rfl) ?_
  refine Z1t ?_
  refine Z2g ?_
  exact Z16
 intro hb4 hp4
 refine ol_q (wn_some rfl rfl rfl hb4 rfl) (op_field fld_46_3 rfl) rfl ?_
 refine ol_q (wn_some rfl rfl rfl hb4 rfl) (op_ld 0 sc_3 rfl rfl (show (msgC _).toArray[34]? = some (.int .i64 mb) from msgC_a34 _)) rfl ?_
 refine ol_q (wn_some rfl rfl rfl hb4 rfl) (op_lt rfl rfl) rfl ?_
 refine oq (op_pick_f (v:=.bool _) rfl hb4 rfl) ?_
 refine R1 ?_
 refine ols 29 rfl ?_ ?_
 ·intro hb5 hp5
  refine Z1p ?_
  refine Z1p ?_
  refine Z1p ?_
  refine Z6p ?_
  refine Zh ?_
  refine R6 ?_
  exact Z16
 intro hb5 hp5
 refine ol_q (wn_some rfl rfl rfl hb5 rfl) (op_field fld_46_3 rfl) rfl ?_
 refine ol_q (wn_some rfl rfl rfl hb5 rfl) (op_ld 0 sc_3 rfl rfl (show (msgC _).toArray[34]? = some (.int .i64 mb) from msgC_a34 _)) rfl ?_
 refine ol_q (wn_some rfl rfl rfl hb5 rfl) (op_gt rfl rfl) rfl ?_
 refine oq (op_pick_f (v:=.bool _) rfl hb5 rfl) ?_
 refine Z8 ?_ ?_
 ·intro hb6 hp6
  refine R6 ?_
  exact Z16
 intro hb6 hp6
 refine R9 ?_
 refine Z7x ?_
 refine Z4d ?_
 refine R4 ?_
 refine cd_loop2 (α:=Nat) [(3,3),(5,5),(37,44)] (fun x=>[(3,.int .i64 (((bits.take x).count true:Nat):Int)),(37,.int .i64 (x:Int))]) (fun _=>_) (fun x=>x≤bits.length) (fun x=>bits.length-x) 0 (Nat.zero_le _) ⟨rfl,rfl,trivial⟩ (fun _ s=>s) ?_
 rintro i hi f;(try dsimp only at hi ⊢)
 have hcl:(bits.take i).count true≤bits.length:=Nat.le_trans List.count_le_length (by rw [List.length_take];omega)
 refine Z3 ?_ ?_
 ·intro hb7 hp7
  have hi1:i<bits.length:=by omega
  refine R5 ?_
  refine oq (op_index _ sB_42 rfl rfl rfl (hr.cons _) rfl (by omega)) ?_
  refine oq (op_ldw sc_4 (hr.cons _) rfl (by omega) rfl) ?_
  refine R7 ?_
  refine Z4 ?_ ?_
  ·intro hb8 hp8
   refine R11 ?_
   have e1:=cnt_succ bits i hi1
   rw [if_pos hb8] at e1
   refine Zal ?_
   exact Z0
  intro hb8 hp8
  refine R7 ?_
  have e1:=cnt_succ bits i hi1
  rw [if_neg (by rw [hb8];simp)] at e1
  refine Zal ?_
  exact Z0
 intro hb7 hp7
 obtain rfl:i=bits.length:=by omega
 rw [List.take_length]
 refine R8 ?_
 refine Z3w ?_
 refine Z6 ?_ ?_
 ·intro hb9 hp9
  refine R2 ?_
  refine Z3i ?_
  refine R2 ?_
  refine ols 51 rfl ?_ ?_
  ·intro hb10 hp10
   refine ol_q (wn_some rfl rfl rfl hb10 rfl) (op_field fld_46_4 rfl) rfl ?_
   refine ol_q (wn_some rfl rfl rfl hb10 rfl) (op_ld 0 sc_41 rfl rfl (show (msgC _).toArray[35]? = some (.int .u64 (bd:Int)) from msgC_a35 _)) rfl ?_
   refine ol_q (wn_some rfl rfl rfl hb10 rfl) (op_eqn (C:=0) rfl rfl) rfl ?_
   refine oq (op_pick_t (v:=.bool _) rfl hb10 rfl) ?_
   refine R1 ?_
   refine ols 56 rfl ?_ ?_
   ·intro hb11 hp11
    refine ol_q (wn_some rfl rfl rfl hb11 rfl) (op_field fld_46_5 rfl) rfl ?_
    refine Zc5 ?_
    refine ol_q (wn_some rfl rfl rfl hb11 rfl) (op_le rfl rfl) rfl ?_
    refine oq (op_pick_t (v:=.bool _) rfl hb11 rfl) ?_
    refine R1 ?_
    refine ols 62 rfl ?_ ?_
    ·intro hb12 hp12
     refine ol_q (wn_some rfl rfl rfl hb12 rfl) (op_move (v:=.int _ _) rfl) rfl ?_
     refine ol_q (wn_some rfl rfl rfl hb12 rfl) (op_gt rfl rfl) rfl ?_
     refine oq (op_pick_t (v:=.bool _) rfl hb12 rfl) ?_
     refine R5 ?_
     exact px_ret1 rfl (v:=.bool _) rfl (fun _ s=>(s.del 0)) ⟨congrArg Value.bool (by
      unfold goodW
      cases hcb:bits.contains true with
      | true=>(have hc9:0<bits.count true:=(cnt_pos bits).2 hcb;simp only [hcb,Bool.false_eq_true,and_false,false_or,and_true];first | (symm;exact decide_eq_true (by omega)) | (symm;exact decide_eq_false (by omega)) | exact decide_eq_decide.2 (by omega))
      | false=>(have hc9:¬ 0<bits.count true:=(fun h=>by rw [(cnt_pos bits).1 h] at hcb;cases hcb);simp only [hcb,Bool.false_eq_true,and_false,false_or,and_true];first | (symm;exact decide_eq_true (by omega)) | (symm;exact decide_eq_false (by omega)) | exact decide_eq_decide.2 (by omega))),rfl⟩
    intro hb12 hp12
    refine ol_skip (wn_some rfl rfl rfl hb12 rfl) rfl ?_
    refine ol_skip (wn_some rfl rfl rfl hb12 rfl) rfl ?_
    refine oq (op_pick_f (v:=.bool _) rfl hb12 rfl) ?_
    refine R5 ?_
    exact px_ret1 rfl (v:=.bool _) rfl (fun _ s=>(s.del 0)) ⟨congrArg Value.bool (by
     unfold goodW
     cases hcb:bits.contains true with
     | true=>(have hc9:0<bits.count true:=(cnt_pos bits).2 hcb;simp only [hcb,Bool.false_eq_true,and_false,false_or,and_true];first | (symm;exact decide_eq_true (by omega)) | (symm;exact decide_eq_false (by omega)) | exact decide_eq_decide.2 (by omega))
     | false=>(have hc9:¬ 0<bits.count true:=(fun h=>by rw [(cnt_pos bits).1 h] at hcb;cases hcb);simp only [hcb,Bool.false_eq_true,and_false,false_or,and_true];first | (symm;exact decide_eq_true (by omega)) | (symm;exact decide_eq_false (by omega)) | exact decide_eq_decide.2 (by omega))),rfl⟩
   intro hb11 hp11
   refine Z37 ?_
   refine Z37 ?_
   refine Z37 ?_
   refine Z37 ?_
   refine oq (op_pick_f (v:=.bool _) rfl hb11 rfl) ?_
   refine Z1r ?_
   refine Z1n ?_
   refine R5 ?_
   exact px_ret1 rfl (v:=.bool _) rfl (fun _ s=>(s.del 0)) ⟨congrArg Value.bool (by
    unfold goodW
    cases hcb:bits.contains true with
    | true=>(have hc9:0<bits.count true:=(cnt_pos bits).2 hcb;simp only [hcb,Bool.false_eq_true,and_false,false_or,and_true];first | (symm;exact decide_eq_true (by omega)) | (symm;exact decide_eq_false (by omega)) | exact decide_eq_decide.2 (by omega))
    | false=>(have hc9:¬ 0<bits.count true:=(fun h=>by rw [(cnt_pos bits).1 h] at hcb;cases hcb);simp only [hcb,Bool.false_eq_true,and_false,false_or,and_true];first | (symm;exact decide_eq_true (by omega)) | (symm;exact decide_eq_false (by omega)) | exact decide_eq_decide.2 (by omega))),rfl⟩
  intro hb10 hp10
  refine Z5m ?_
  refine Z5m ?_
  refine Z5m ?_
  refine oq (op_pick_f (v:=.bool _) rfl hb10 rfl) ?_
  refine Z3c ?_
  refine Z1n ?_
  refine Z1r ?_
  refine Z1n ?_
  refine R5 ?_
  exact px_ret1 rfl (v:=.bool _) rfl (fun _ s=>(s.del 0)) ⟨congrArg Value.bool (by
   unfold goodW
   cases hcb:bits.contains true with
   | true=>(have hc9:0<bits.count true:=(cnt_pos bits).2 hcb;simp only [hcb,Bool.false_eq_true,and_false,false_or,and_true];first | (symm;exact decide_eq_true (by omega)) | (symm;exact decide_eq_false (by omega)) | exact decide_eq_decide.2 (by omega))
   | false=>(have hc9:¬ 0<bits.count true:=(fun h=>by rw [(cnt_pos bits).1 h] at hcb;cases hcb);simp only [hcb,Bool.false_eq_true,and_false,false_or,and_true];first | (symm;exact decide_eq_true (by omega)) | (symm;exact decide_eq_false (by omega)) | exact decide_eq_decide.2 (by omega))),rfl⟩
 intro hb9 hp9
 refine R4 ?_
 refine Z7x ?_
 refine Z4d ?_
 refine R2 ?_
 refine ols 70 rfl ?_ ?_
 ·intro hb13 hp13
  refine ol_q (wn_some rfl rfl rfl hb13 rfl) (op_field fld_46_0 rfl) rfl ?_
  refine ol_q (wn_some rfl rfl rfl hb13 rfl) (op_ld 0 sc_3 rfl rfl (show (msgC _).toArray[0]? = some (.int .i64 k) from msgC_a0 _)) rfl ?_
  refine ol_q (wn_some rfl rfl rfl hb13 rfl) (op_eq rfl rfl) rfl ?_
  refine ol_q (wn_some rfl rfl rfl hb13 rfl) (op_move (v:=.bool _) rfl) rfl ?_
  refine ols 74 rfl ?_ ?_
  ·intro hb14 hp14
   refine Z5n ?_
   refine Z5n ?_
   refine Z5n ?_
   refine ol_q (wn_some rfl rfl rfl hb13 rfl) (op_pick_t (v:=.bool _) rfl hb14 rfl) rfl ?_
   refine oq (op_pick_t (v:=.bool _) rfl hb13 rfl) ?_
   refine R4 ?_
   exact px_ret1 rfl (v:=.bool _) rfl (fun _ s=>(s.del 0)) ⟨congrArg Value.bool (by
    unfold goodW
    cases hcb:bits.contains true with
    | true=>(have hc9:0<bits.count true:=(cnt_pos bits).2 hcb;simp only [hcb,Bool.false_eq_true,and_false,false_or,and_true];first | (symm;exact decide_eq_true (by omega)) | (symm;exact decide_eq_false (by omega)) | exact decide_eq_decide.2 (by omega))
    | false=>(have hc9:¬ 0<bits.count true:=(fun h=>by rw [(cnt_pos bits).1 h] at hcb;cases hcb);simp only [hcb,Bool.false_eq_true,and_false,false_or,and_true];first | (symm;exact decide_eq_true (by omega)) | (symm;exact decide_eq_false (by omega)) | exact decide_eq_decide.2 (by omega))),rfl⟩
  intro hb14 hp14
  refine ol_q (wn_some rfl rfl rfl hb14 rfl) (op_field fld_46_4 rfl) rfl ?_
  refine ol_q (wn_some rfl rfl rfl hb14 rfl) (op_ld 0 sc_41 rfl rfl (show (msgC _).toArray[35]? = some (.int .u64 (bd:Int)) from msgC_a35 _)) rfl ?_
  refine ol_q (wn_some rfl rfl rfl hb14 rfl) (op_eqn (C:=0) rfl rfl) rfl ?_
  refine ol_q (wn_some rfl rfl rfl hb13 rfl) (op_pick_f (v:=.bool _) rfl hb14 rfl) rfl ?_
  refine oq (op_pick_t (v:=.bool _) rfl hb13 rfl) ?_
  refine R4 ?_
  exact px_ret1 rfl (v:=.bool _) rfl (fun _ s=>(s.del 0)) ⟨congrArg Value.bool (by
   unfold goodW
   cases hcb:bits.contains true with
   | true=>(have hc9:0<bits.count true:=(cnt_pos bits).2 hcb;simp only [hcb,Bool.false_eq_true,and_false,false_or,and_true];first | (symm;exact decide_eq_true (by omega)) | (symm;exact decide_eq_false (by omega)) | exact decide_eq_decide.2 (by omega))
   | false=>(have hc9:¬ 0<bits.count true:=(fun h=>by rw [(cnt_pos bits).1 h] at hcb;cases hcb);simp only [hcb,Bool.false_eq_true,and_false,false_or,and_true];first | (symm;exact decide_eq_true (by omega)) | (symm;exact decide_eq_false (by omega)) | exact decide_eq_decide.2 (by omega))),rfl⟩
 intro hb13 hp13
 refine Z38 ?_
 refine Z38 ?_
 refine Z38 ?_
 refine Z38 ?_
 refine Z47 ?_
 refine Z4a ?_
 refine Z38 ?_
 refine oq (op_pick_f (v:=.bool _) rfl hb13 rfl) ?_
 refine R4 ?_
 exact px_ret1 rfl (v:=.bool _) rfl (fun _ s=>(s.del 0)) ⟨congrArg Value.bool (by
  unfold goodW
  cases hcb:bits.contains true with
  | true=>(have hc9:0<bits.count true:=(cnt_pos bits).2 hcb;simp only [hcb,Bool.false_eq_true,and_false,false_or,and_true];first | (symm;exact decide_eq_true (by omega)) | (symm;exact decide_eq_false (by omega)) | exact decide_eq_decide.2 (by omega))
  | false=>(have hc9:¬ 0<bits.count true:=(fun h=>by rw [(cnt_pos bits).1 h] at hcb;cases hcb);simp only [hcb,Bool.false_eq_true,and_false,false_or,and_true];first | (symm;exact decide_eq_true (by omega)) | (symm;exact decide_eq_false (by omega)) | exact decide_eq_decide.2 (by omega))),rfl⟩
theorem Plain_calls {w0 w:World} {l:List HProp} (k sl:Int) (tg:Root) (mb:Int) (bd:Nat) (bo:Option Addr) (bc:Nat) (bits:List Bool) (tag:Tag) (hs:Sat w0 w (l)) (hr:Rds w0 l encBool bo bits) (hxl:bits.length≤1000) (hbd:bd<18446744073709551616) :
  Calls Tryz.prog 167 #[.agg (msgC ⟨k,sl,tg,mb,bd,⟨bo,bits.length,bc⟩,tag⟩).toArray] w (Ret w0 fun v l'=>v=.string (B (plainW k sl tg mb bd bits))∧l'=l):=by
 have hu1:=u64N_lt sl
 have hu2:=u64N_lt mb
 have htl:=root_len tg
 refine calls_enter Tryz.func167 rfl rfl rfl hs ?_
 refine Z5 ?_;intro bx1
 refine R5 ?_
 refine Z3w ?_
 refine oq (op_conv8i Tryz.underlying5 (by rw [Tryz.underlying3];rfl) rfl) ?_
 refine Z4w ?_;intro ao1
 refine R1 ?_
 refine oq (op_ld 1 sc_3 rfl rfl (show (msgC _).toArray[1]? = some (.int .i64 sl) from msgC_a1 _)) ?_
 refine Z3j ?_
 refine oi (os_call cb_177 rfl (fun w s=>Put_calls (wd:=4) _ _ _ _  s (by omega) (by simp [putB_length,htl]))) ?_;rintro _ _ ⟨pa1,pc1,rfl,rfl⟩;rw [show clamp8 4=4 from rfl]
 refine R6 ?_
 refine oq (op_slicea_all a1_35 rfl) ?_
 refine oi (os_append (E:=encU8) rfl sB_97 zv_5 rfl rfl rfl (fun w s=>(rds_fld 1 2 32 rfl (msgC_af2 _)) [] w s) (root_len _) (by simp [putB_length]) (by unfold maxLen;simp [putB_length])) ?_;rintro _ _ ⟨ao2,ac2,rfl,rfl⟩
 refine R6 ?_
 refine Z4e ?_
 refine R8 ?_
 refine Z4 ?_ ?_
 ·intro hb1 hp1
  have hk1:k=1:=by omega
  refine cd_draw (M:=[_]) mx [4,7] (by kernel_rfl) ?_
  refine R2 ?_
  refine rg_q (wn_none rfl) (op_ld 0 sc_3 rfl rfl (show (msgC _).toArray[34]? = some (.int .i64 mb) from msgC_a34 _)) rfl rfl ?_
  refine Z9b ?_
  refine rg_i (wn_none rfl) (os_call cb_177 rfl (fun w s=>Put_calls (wd:=2) _ _ _ _  s (by omega) (by simp [putB_length,htl]))) rfl rfl ?_;rintro _ _ ⟨pa2,pc2,rfl,rfl⟩;rw [show clamp8 2=2 from rfl];refine ⟨[_],rfl,?_⟩
  refine R1 ?_
  refine rg_q (wn_none rfl) (op_ld 0 sc_41 rfl rfl (show (msgC _).toArray[35]? = some (.int .u64 (bd:Int)) from msgC_a35 _)) rfl rfl ?_
  refine rg_i (wn_none rfl) (os_call cb_177 rfl (fun w s=>Put_calls (wd:=8) _ _ _ _  s (by omega) (by simp [putB_length,htl]))) rfl rfl ?_;rintro _ _ ⟨pa3,pc3,rfl,rfl⟩;rw [show clamp8 8=8 from rfl];refine ⟨[_],rfl,?_⟩
  refine R1 ?_
  refine rg_nil1 ?_
  refine R4 ?_
  refine Z2j ?_
  refine R4 ?_
  exact px_ret1 rfl (v:=.string _) rfl (fun _ s=>((s.del 1).del 0)) ⟨by unfold plainW bodyW;rw [if_pos hk1];simp only [List.append_assoc],rfl⟩
 intro hb1 hp1
 have hk1:¬ k=1:=by omega
 refine Z3 ?_ ?_
 ·intro hb2 hp2
  have hk2:k=2:=by omega
  refine R3 ?_
  refine Z7y ?_
  refine Z3j ?_
  refine oi (os_call cb_177 rfl (fun w s=>Put_calls (wd:=2) _ _ _ _  s (by omega) (by simp [putB_length,htl]))) ?_;rintro _ _ ⟨pa4,pc4,rfl,rfl⟩;rw [show clamp8 2=2 from rfl]
  refine R6 ?_
  refine Z2j ?_
  refine R4 ?_
  exact px_ret1 rfl (v:=.string _) rfl (fun _ s=>((s.del 1).del 0)) ⟨by unfold plainW bodyW;rw [if_neg hk1,if_pos hk2],rfl⟩
 intro hb2 hp2
 have hk2:¬ k=2:=by omega
 refine Z3 ?_ ?_
 ·intro hb3 hp3
  have hk3:k=3:=by omega
  refine R3 ?_
  refine Z7z ?_
  refine oi (os_call cb_189 rfl (fun w s=>BPut_calls _ _ _ _ _ _ _  s (hr.cons _) rfl (by simp [putB_length,htl]) (by omega))) ?_;rintro _ _ ⟨pa5,pc5,rfl,rfl⟩
  refine R6 ?_
  refine Z2j ?_
  refine R4 ?_
  exact px_ret1 rfl (v:=.string _) rfl (fun _ s=>((s.del 1).del 0)) ⟨by unfold plainW bodyW;rw [if_neg hk1,if_neg hk2,if_pos hk3],rfl⟩
 intro hb3 hp3
 have hk3:¬ k=3:=by omega
 refine R5 ?_
 refine Z2j ?_
 refine R4 ?_
 exact px_ret1 rfl (v:=.string _) rfl (fun _ s=>((s.del 1).del 0)) ⟨by unfold plainW bodyW;rw [if_neg hk1,if_neg hk2,if_neg hk3,List.append_nil],rfl⟩
end Go.SL
set_option linter.unusedVariables false
set_option linter.unusedSimpArgs false
set_option linter.unusedSectionVars false
set_option maxHeartbeats 1000000
set_option maxRecDepth 100000
namespace Go.SL
open Go.Proofs
theorem Decode_calls {w0 w:World} {l:List HProp} (src:List UInt8) (hs:Sat w0 w (l)) (hs1:src.length≤100000) :
  Calls Tryz.prog 73 #[.string (B src)] w (Ret w0 fun v l'=>∃ ao c,v=.tuple #[.agg (msgC ⟨(decP src).1.kind,(decP src).1.slot,(decP src).1.target,(decP src).1.member,(decP src).1.body,⟨ao,(decP src).1.bits.length,c⟩,(decP src).1.tag⟩).toArray,.bool (decP src).2]∧l'=Row 4 encBool (.slice ao (decP src).1.bits.length c) (decP src).1.bits::l):=by
 have ha1:=rdUint_lt1 ⟨src,false⟩
 have hb1:=rdUint_lt4 (rdUint ⟨src,false⟩ 1).2
 have hc1:=rdUint_lt2 (rdBytes (rdUint (rdUint ⟨src,false⟩ 1).2 4).2 32).2
 have hd1:=rdUint_lt8 (rdUint (rdBytes (rdUint (rdUint ⟨src,false⟩ 1).2 4).2 32).2 2).2
 have hr1:=rdUint_rest ⟨src,false⟩ 1
 have hr2:=rdUint_rest (rdUint ⟨src,false⟩ 1).2 4
 have hr3:=rdBytes_rest (rdUint (rdUint ⟨src,false⟩ 1).2 4).2 32
 have hr4:=rdBytes_len2 (rdBytes (rdUint (rdUint ⟨src,false⟩ 1).2 4).2 32).2 (((rdBytes (rdUint (rdUint ⟨src,false⟩ 1).2 4).2 32).2.rest.length:Int)-16)
 dsimp only at hr1
 refine calls_enter Tryz.func73 rfl rfl rfl hs ?_
 refine R1 ?_
 refine Z3x ?_;intro bx1
 refine R5 ?_
 refine oi (os_call cb_115 rfl (fun w s=>From_calls _  s )) ?_;rintro _ _ ⟨p1,rfl,rfl⟩
 refine R5 ?_
 refine oi (os_call cb_116 rfl (fun w s=>Uint_calls (n:=1) _ _  s )) ?_;rintro _ _ ⟨rfl,rfl⟩
 refine Z6q ?_
 refine R1 ?_
 refine oi (os_call cb_116 rfl (fun w s=>Uint_calls (n:=4) _ _  s )) ?_;rintro _ _ ⟨rfl,rfl⟩
 refine Z6q ?_
 refine oq (op_build (L:=msgC _) (vs:=[(0,.int _ _),(1,.int _ _)]) bB_46 rfl ⟨⟨rfl,by rw [msgC_len];rfl⟩,⟨rfl,by rw [msgC_len];rfl⟩,trivial⟩ ((msgC_b0 _ _ _).trans ((msgC_b1 _ _ _).trans rfl))) ?_
 refine Z3x ?_;intro bx2
 refine Z17 ?_
 refine R2 ?_
 refine cd_pull1 ?_
 refine R1 ?_
 refine Z6r ?_
 dsimp only [List.take_succ_cons,List.take_zero,List.drop_succ_cons,List.drop_zero]
 refine R1 ?_
 refine rg_q (wn_none rfl) (op_slicea_all a1_35 rfl) rfl rfl ?_
 refine R1 ?_
 refine rg_i (wn_none rfl) (os_call cb_117 rfl (fun w s=>Bytes_calls (n:=32) _ _  s )) rfl rfl ?_;rintro _ _ ⟨rfl,rfl⟩;refine ⟨[_],rfl,?_⟩
 refine rg_tail1 ?_
 refine Z2 ?_
 refine oi (os_copyf (r:=(_:Root).1) _ (msgC _) 97 rfl s1_97 rfl rfl (root_len _) (msgC_af2 _) (by simp [msgC_len]) (Free.zero _) (msgC_p2 _ (Root.over _ _))) ?_;rintro _ _ ⟨rfl,rfl⟩
 refine R5 ?_
 refine oq (op_ld 0 sc_3 rfl rfl (show (msgC _).toArray[0]? = some (.int .i64 (((rdUint ⟨src,false⟩ 1).1:Nat):Int)) from msgC_a0 _)) ?_
 refine R8 ?_
 refine Z4 ?_ ?_
 ·intro hb1 hp1
  have hk1:((rdUint ⟨src,false⟩ 1).1:Int)=1:=by omega
  refine Z32 ?_
  refine oi (os_call cb_116 rfl (fun w s=>Uint_calls (n:=2) _ _  s )) ?_;rintro _ _ ⟨rfl,rfl⟩
  refine Z6q ?_
  refine R1 ?_
  refine oi (os_call cb_116 rfl (fun w s=>Uint_calls (n:=8) _ _  s )) ?_;rintro _ _ ⟨rfl,rfl⟩
  refine R1 ?_
  refine Z2 ?_
  refine oN (os_store (v:=.int _ _) sc_3 rfl rfl rfl (by simp [msgC_len]) (Free.zero _) (msgC_s34 _ _)) ?_;rintro _ _ ⟨rfl,rfl⟩
  refine R1 ?_
  refine oN (os_store (v:=.int _ _) sc_41 rfl rfl rfl (by simp [msgC_len]) (Free.zero _) (msgC_s35 _ _)) ?_;rintro _ _ ⟨rfl,rfl⟩
  refine R3 ?_
  refine cd_pull1 ?_
  refine R1 ?_
  refine Z6r ?_
  dsimp only [List.take_succ_cons,List.take_zero,List.drop_succ_cons,List.drop_zero]
  refine R1 ?_
  refine Z6s ?_
  refine R1 ?_
  refine Z80 ?_
  refine rg_tail1 ?_
  refine Z2 ?_
  refine Z81 ?_
  refine R5 ?_
  refine Z2 ?_
  refine Z82 ?_
  refine R2 ?_
  refine ols 63 rfl ?_ ?_
  ·intro hb2 hp2
   have hend:endR (rdBytes (rdUint (rdUint (rdBytes (rdUint (rdUint ⟨src,false⟩ 1).2 4).2 32).2 2).2 8).2 16).2=false:=by have h9:(!endR (rdBytes (rdUint (rdUint (rdBytes (rdUint (rdUint ⟨src,false⟩ 1).2 4).2 32).2 2).2 8).2 16).2)=true:=hb2;simpa using h9
   refine Zx ?_
   refine Z3s ?_
   refine Z1w ?_
   refine Zh ?_
   refine R1 ?_
   refine Z3k ?_
   refine Z7 ?_
   refine Z17 ?_
   refine R5 ?_
   have hd:decP src=(MsgP.zero,false):=by
    unfold decP
    dsimp only
    rw [if_pos hk1,okW_no (by rintro ⟨q1,q2⟩;rw [hend] at q1;cases q1)]
   exact Z3y
  intro hb2 hp2
  have hend:endR (rdBytes (rdUint (rdUint (rdBytes (rdUint (rdUint ⟨src,false⟩ 1).2 4).2 32).2 2).2 8).2 16).2=true:=by have h9:(!endR (rdBytes (rdUint (rdUint (rdBytes (rdUint (rdUint ⟨src,false⟩ 1).2 4).2 32).2 2).2 8).2 16).2)=false:=hb2;simpa using h9
  refine ol_q (wn_some rfl rfl rfl hb2 rfl) (op_lda (L:=msgC _) 1 ag_46 rfl rfl (msgC_ta _) (by simp [msgC_len])) rfl ?_
  refine ol_i (wn_some rfl rfl rfl hb2 rfl) (os_call cb_121 rfl (fun w s=>WGood_calls (bits:=([]:List Bool)) _ _ _ _ _ _ _ _  s (rds_nil _) (by show 0≤1000;omega) (by first | exact hd1 | (show 0<_;omega)))) rfl ?_;rintro _ _ ⟨rfl,rfl⟩
  refine ol_q (wn_some rfl rfl rfl hb2 rfl) (op_not rfl) rfl ?_
  refine Z1o ?_
  refine Z8 ?_ ?_
  ·intro hb3 hp3
   have hgd:goodW ((rdUint ⟨src,false⟩ 1).1:Int) ((rdUint (rdUint ⟨src,false⟩ 1).2 4).1:Int) ((rdUint (rdBytes (rdUint (rdUint ⟨src,false⟩ 1).2 4).2 32).2 2).1:Int) (rdUint (rdUint (rdBytes (rdUint (rdUint ⟨src,false⟩ 1).2 4).2 32).2 2).2 8).1 []=false:=by have h9:(!goodW ((rdUint ⟨src,false⟩ 1).1:Int) ((rdUint (rdUint ⟨src,false⟩ 1).2 4).1:Int) ((rdUint (rdBytes (rdUint (rdUint ⟨src,false⟩ 1).2 4).2 32).2 2).1:Int) (rdUint (rdUint (rdBytes (rdUint (rdUint ⟨src,false⟩ 1).2 4).2 32).2 2).2 8).1 [])=true:=hb3;simpa using h9
   refine R1 ?_
   refine Z3k ?_
   refine Z7 ?_
   refine Z17 ?_
   refine R5 ?_
   have hd:decP src=(MsgP.zero,false):=by
    unfold decP
    dsimp only
    rw [if_pos hk1,okW_no (by rintro ⟨q1,q2⟩;rw [show goodW _ _ _ _ _=false from hgd] at q2;cases q2)]
   exact Z3y
  intro hb3 hp3
  have hgd:goodW ((rdUint ⟨src,false⟩ 1).1:Int) ((rdUint (rdUint ⟨src,false⟩ 1).2 4).1:Int) ((rdUint (rdBytes (rdUint (rdUint ⟨src,false⟩ 1).2 4).2 32).2 2).1:Int) (rdUint (rdUint (rdBytes (rdUint (rdUint ⟨src,false⟩ 1).2 4).2 32).2 2).2 8).1 []=true:=by have h9:(!goodW ((rdUint ⟨src,false⟩ 1).1:Int) ((rdUint (rdUint ⟨src,false⟩ 1).2 4).1:Int) ((rdUint (rdBytes (rdUint (rdUint ⟨src,false⟩ 1).2 4).2 32).2 2).1:Int) (rdUint (rdUint (rdBytes (rdUint (rdUint ⟨src,false⟩ 1).2 4).2 32).2 2).2 8).1 [])=false:=hb3;simpa using h9
  refine R4 ?_
  refine Z7 ?_
  refine Z17 ?_
  refine R4 ?_
  have hd:decP src=(⟨(rdUint ⟨src,false⟩ 1).1,(rdUint (rdUint ⟨src,false⟩ 1).2 4).1,(Root.zero.over (rdBytes (rdUint (rdUint ⟨src,false⟩ 1).2 4).2 32).1),(rdUint (rdBytes (rdUint (rdUint ⟨src,false⟩ 1).2 4).2 32).2 2).1,(rdUint (rdUint (rdBytes (rdUint (rdUint ⟨src,false⟩ 1).2 4).2 32).2 2).2 8).1,[],Tag.zero.over (rdBytes (rdUint (rdUint (rdBytes (rdUint (rdUint ⟨src,false⟩ 1).2 4).2 32).2 2).2 8).2 16).1⟩,true):=by
   unfold decP
   dsimp only
   rw [if_pos hk1,okW_yes hend hgd]
  exact Z3y
 intro hb1 hp1
 have hk1:¬ ((rdUint ⟨src,false⟩ 1).1:Int)=1:=by omega
 refine Z3 ?_ ?_
 ·intro hb4 hp4
  have hk2:((rdUint ⟨src,false⟩ 1).1:Int)=2:=by omega
  refine Z32 ?_
  refine oi (os_call cb_116 rfl (fun w s=>Uint_calls (n:=2) _ _  s )) ?_;rintro _ _ ⟨rfl,rfl⟩
  refine Z6q ?_
  refine R1 ?_
  refine Z2 ?_
  refine oN (os_store (v:=.int _ _) sc_3 rfl rfl rfl (by simp [msgC_len]) (Free.zero _) (msgC_s34 _ _)) ?_;rintro _ _ ⟨rfl,rfl⟩
  refine R3 ?_
  refine cd_pull1 ?_
  refine R1 ?_
  refine Z6r ?_
  dsimp only [List.take_succ_cons,List.take_zero,List.drop_succ_cons,List.drop_zero]
  refine R1 ?_
  refine Z6s ?_
  refine R1 ?_
  refine Z80 ?_
  refine rg_tail1 ?_
  refine Z2 ?_
  refine Z81 ?_
  refine R5 ?_
  refine Z2 ?_
  refine Z82 ?_
  refine R2 ?_
  refine ols 63 rfl ?_ ?_
  ·intro hb5 hp5
   have hend:endR (rdBytes (rdUint (rdBytes (rdUint (rdUint ⟨src,false⟩ 1).2 4).2 32).2 2).2 16).2=false:=by have h9:(!endR (rdBytes (rdUint (rdBytes (rdUint (rdUint ⟨src,false⟩ 1).2 4).2 32).2 2).2 16).2)=true:=hb5;simpa using h9
   refine Z1p ?_
   refine Z1p ?_
   refine Z1p ?_
   refine Z6p ?_
   refine Zh ?_
   refine R1 ?_
   refine Z3k ?_
   refine Z7 ?_
   refine Z17 ?_
   refine R5 ?_
   have hd:decP src=(MsgP.zero,false):=by
    unfold decP
    dsimp only
    rw [if_neg hk1,if_pos hk2,okW_no (by rintro ⟨q1,q2⟩;rw [hend] at q1;cases q1)]
   exact Z3y
  intro hb5 hp5
  have hend:endR (rdBytes (rdUint (rdBytes (rdUint (rdUint ⟨src,false⟩ 1).2 4).2 32).2 2).2 16).2=true:=by have h9:(!endR (rdBytes (rdUint (rdBytes (rdUint (rdUint ⟨src,false⟩ 1).2 4).2 32).2 2).2 16).2)=false:=hb5;simpa using h9
  refine ol_q (wn_some rfl rfl rfl hb5 rfl) (op_lda (L:=msgC _) 1 ag_46 rfl rfl (msgC_ta _) (by simp [msgC_len])) rfl ?_
  refine ol_i (wn_some rfl rfl rfl hb5 rfl) (os_call cb_121 rfl (fun w s=>WGood_calls (bits:=([]:List Bool)) _ _ _ _ _ _ _ _  s (rds_nil _) (by show 0≤1000;omega) (by first | exact hd1 | (show 0<_;omega)))) rfl ?_;rintro _ _ ⟨rfl,rfl⟩
  refine ol_q (wn_some rfl rfl rfl hb5 rfl) (op_not rfl) rfl ?_
  refine oq (op_pick_f (v:=.bool _) rfl hb5 rfl) ?_
  refine Z8 ?_ ?_
  ·intro hb6 hp6
   have hgd:goodW ((rdUint ⟨src,false⟩ 1).1:Int) ((rdUint (rdUint ⟨src,false⟩ 1).2 4).1:Int) ((rdUint (rdBytes (rdUint (rdUint ⟨src,false⟩ 1).2 4).2 32).2 2).1:Int) 0 []=false:=by have h9:(!goodW ((rdUint ⟨src,false⟩ 1).1:Int) ((rdUint (rdUint ⟨src,false⟩ 1).2 4).1:Int) ((rdUint (rdBytes (rdUint (rdUint ⟨src,false⟩ 1).2 4).2 32).2 2).1:Int) 0 [])=true:=hb6;simpa using h9
   refine R1 ?_
   refine Z3k ?_
   refine Z7 ?_
   refine Z17 ?_
   refine R5 ?_
   have hd:decP src=(MsgP.zero,false):=by
    unfold decP
    dsimp only
    rw [if_neg hk1,if_pos hk2,okW_no (by rintro ⟨q1,q2⟩;rw [show goodW _ _ _ _ _=false from hgd] at q2;cases q2)]
   exact Z3y
  intro hb6 hp6
  have hgd:goodW ((rdUint ⟨src,false⟩ 1).1:Int) ((rdUint (rdUint ⟨src,false⟩ 1).2 4).1:Int) ((rdUint (rdBytes (rdUint (rdUint ⟨src,false⟩ 1).2 4).2 32).2 2).1:Int) 0 []=true:=by have h9:(!goodW ((rdUint ⟨src,false⟩ 1).1:Int) ((rdUint (rdUint ⟨src,false⟩ 1).2 4).1:Int) ((rdUint (rdBytes (rdUint (rdUint ⟨src,false⟩ 1).2 4).2 32).2 2).1:Int) 0 [])=false:=hb6;simpa using h9
  refine R4 ?_
  refine Z7 ?_
  refine Z17 ?_
  refine R4 ?_
  have hd:decP src=(⟨(rdUint ⟨src,false⟩ 1).1,(rdUint (rdUint ⟨src,false⟩ 1).2 4).1,(Root.zero.over (rdBytes (rdUint (rdUint ⟨src,false⟩ 1).2 4).2 32).1),(rdUint (rdBytes (rdUint (rdUint ⟨src,false⟩ 1).2 4).2 32).2 2).1,0,[],Tag.zero.over (rdBytes (rdUint (rdBytes (rdUint (rdUint ⟨src,false⟩ 1).2 4).2 32).2 2).2 16).1⟩,true):=by
   unfold decP
   dsimp only
   rw [if_neg hk1,if_pos hk2,okW_yes hend hgd]
  exact Z3y
 intro hb4 hp4
 have hk2:¬ ((rdUint ⟨src,false⟩ 1).1:Int)=2:=by omega
 refine Z3 ?_ ?_
 ·intro hb7 hp7
  have hk3:((rdUint ⟨src,false⟩ 1).1:Int)=3:=by omega
  refine R3 ?_
  refine Z2 ?_
  refine oi (os_call cb_119 rfl (fun w s=>Left_calls _ _  s )) ?_;rintro _ _ ⟨rfl,rfl⟩
  refine R1 ?_
  refine Z95 ?_
  refine oi (os_call cb_118 rfl (fun w s=>BGet_calls (most:=16) _  s (by first | omega | (simp;done) | (simp;omega)))) ?_;rintro _ _ ⟨ga16,gc16,rfl,rfl⟩
  refine R13 ?_
  refine Z4 ?_ ?_
  ·intro hb8 hp8
   have hgo:¬ (getB (rdBytes (rdBytes (rdUint (rdUint ⟨src,false⟩ 1).2 4).2 32).2 (((rdBytes (rdUint (rdUint ⟨src,false⟩ 1).2 4).2 32).2.rest.length:Int)-16)).1 16).isSome=true:=by simpa using hb8
   refine R1 ?_
   refine Z3k ?_
   refine Zg ?_
   refine Z17 ?_
   refine R7 ?_
   have hd:decP src=(MsgP.zero,false):=by
    unfold decP
    dsimp only
    rw [if_neg hk1,if_neg hk2,if_pos hk3,if_neg hgo]
   exact Z9c
  intro hb8 hp8
  have hgo:(getB (rdBytes (rdBytes (rdUint (rdUint ⟨src,false⟩ 1).2 4).2 32).2 (((rdBytes (rdUint (rdUint ⟨src,false⟩ 1).2 4).2 32).2.rest.length:Int)-16)).1 16).isSome=true:=by simpa using hb8
  refine R5 ?_
  refine Z7 ?_
  refine oN (os_store (v:=.slice _ _ _) sc_42 rfl rfl rfl (by simp [msgC_len]) (Free.zero _) (msgC_s36 _ ⟨_,_,_⟩)) ?_;rintro _ _ ⟨rfl,rfl⟩
  refine R3 ?_
  refine cd_pull2 ?_
  refine R1 ?_
  refine Z6r ?_
  dsimp only [List.take_succ_cons,List.take_zero,List.drop_succ_cons,List.drop_zero]
  refine R1 ?_
  refine Z6s ?_
  refine R1 ?_
  refine Z80 ?_
  refine rg_tail1 ?_
  refine Z2 ?_
  refine Z81 ?_
  refine R5 ?_
  refine Z2 ?_
  refine Z82 ?_
  refine R2 ?_
  refine ols 63 rfl ?_ ?_
  ·intro hb9 hp9
   have hend:endR (rdBytes (rdBytes (rdBytes (rdUint (rdUint ⟨src,false⟩ 1).2 4).2 32).2 (((rdBytes (rdUint (rdUint ⟨src,false⟩ 1).2 4).2 32).2.rest.length:Int)-16)).2 16).2=false:=by have h9:(!endR (rdBytes (rdBytes (rdBytes (rdUint (rdUint ⟨src,false⟩ 1).2 4).2 32).2 (((rdBytes (rdUint (rdUint ⟨src,false⟩ 1).2 4).2 32).2.rest.length:Int)-16)).2 16).2)=true:=hb9;simpa using h9
   refine Z5l ?_
   refine Z5l ?_
   refine Z5l ?_
   refine oq (op_pick_t (v:=.bool _) rfl hb9 rfl) ?_
   refine Zh ?_
   refine R1 ?_
   refine Z3k ?_
   refine Zg ?_
   refine Z17 ?_
   refine R5 ?_
   have hd:decP src=(MsgP.zero,false):=by
    unfold decP
    dsimp only
    rw [if_neg hk1,if_neg hk2,if_pos hk3,if_pos hgo,okW_no (by rintro ⟨q1,q2⟩;rw [hend] at q1;cases q1)]
   exact Z9c
  intro hb9 hp9
  have hend:endR (rdBytes (rdBytes (rdBytes (rdUint (rdUint ⟨src,false⟩ 1).2 4).2 32).2 (((rdBytes (rdUint (rdUint ⟨src,false⟩ 1).2 4).2 32).2.rest.length:Int)-16)).2 16).2=true:=by have h9:(!endR (rdBytes (rdBytes (rdBytes (rdUint (rdUint ⟨src,false⟩ 1).2 4).2 32).2 (((rdBytes (rdUint (rdUint ⟨src,false⟩ 1).2 4).2 32).2.rest.length:Int)-16)).2 16).2)=false:=hb9;simpa using h9
  refine ol_q (wn_some rfl rfl rfl hb9 rfl) (op_lda (L:=msgC _) 1 ag_46 rfl rfl (msgC_ta _) (by simp [msgC_len])) rfl ?_
  refine ol_i (wn_some rfl rfl rfl hb9 rfl) (os_call cb_121 rfl (fun w s=>WGood_calls (bits:=(getD' (rdBytes (rdBytes (rdUint (rdUint ⟨src,false⟩ 1).2 4).2 32).2 (((rdBytes (rdUint (rdUint ⟨src,false⟩ 1).2 4).2 32).2.rest.length:Int)-16)).1 16)) _ _ _ _ _ _ _ _  s (rds_row 2 rfl rfl) (by have:=(getB_back (most:=16) hgo).2;omega) (by first | exact hd1 | (show 0<_;omega)))) rfl ?_;rintro _ _ ⟨rfl,rfl⟩
  refine ol_q (wn_some rfl rfl rfl hb9 rfl) (op_not rfl) rfl ?_
  refine oq (op_pick_f (v:=.bool _) rfl hb9 rfl) ?_
  refine Z8 ?_ ?_
  ·intro hb10 hp10
   have hgd:goodW ((rdUint ⟨src,false⟩ 1).1:Int) ((rdUint (rdUint ⟨src,false⟩ 1).2 4).1:Int) 0 0 (getD' (rdBytes (rdBytes (rdUint (rdUint ⟨src,false⟩ 1).2 4).2 32).2 (((rdBytes (rdUint (rdUint ⟨src,false⟩ 1).2 4).2 32).2.rest.length:Int)-16)).1 16)=false:=by have h9:(!goodW ((rdUint ⟨src,false⟩ 1).1:Int) ((rdUint (rdUint ⟨src,false⟩ 1).2 4).1:Int) 0 0 (getD' (rdBytes (rdBytes (rdUint (rdUint ⟨src,false⟩ 1).2 4).2 32).2 (((rdBytes (rdUint (rdUint ⟨src,false⟩ 1).2 4).2 32).2.rest.length:Int)-16)).1 16))=true:=hb10;simpa using h9
   refine R1 ?_
   refine Z3k ?_
   refine Zg ?_
   refine Z17 ?_
   refine R5 ?_
   have hd:decP src=(MsgP.zero,false):=by
    unfold decP
    dsimp only
    rw [if_neg hk1,if_neg hk2,if_pos hk3,if_pos hgo,okW_no (by rintro ⟨q1,q2⟩;rw [show goodW _ _ _ _ _=false from hgd] at q2;cases q2)]
   exact Z9c
  intro hb10 hp10
  have hgd:goodW ((rdUint ⟨src,false⟩ 1).1:Int) ((rdUint (rdUint ⟨src,false⟩ 1).2 4).1:Int) 0 0 (getD' (rdBytes (rdBytes (rdUint (rdUint ⟨src,false⟩ 1).2 4).2 32).2 (((rdBytes (rdUint (rdUint ⟨src,false⟩ 1).2 4).2 32).2.rest.length:Int)-16)).1 16)=true:=by have h9:(!goodW ((rdUint ⟨src,false⟩ 1).1:Int) ((rdUint (rdUint ⟨src,false⟩ 1).2 4).1:Int) 0 0 (getD' (rdBytes (rdBytes (rdUint (rdUint ⟨src,false⟩ 1).2 4).2 32).2 (((rdBytes (rdUint (rdUint ⟨src,false⟩ 1).2 4).2 32).2.rest.length:Int)-16)).1 16))=false:=hb10;simpa using h9
  refine R4 ?_
  refine Zg ?_
  refine Z17 ?_
  refine R4 ?_
  have hd:decP src=(⟨(rdUint ⟨src,false⟩ 1).1,(rdUint (rdUint ⟨src,false⟩ 1).2 4).1,(Root.zero.over (rdBytes (rdUint (rdUint ⟨src,false⟩ 1).2 4).2 32).1),0,0,getD' (rdBytes (rdBytes (rdUint (rdUint ⟨src,false⟩ 1).2 4).2 32).2 (((rdBytes (rdUint (rdUint ⟨src,false⟩ 1).2 4).2 32).2.rest.length:Int)-16)).1 16,Tag.zero.over (rdBytes (rdBytes (rdBytes (rdUint (rdUint ⟨src,false⟩ 1).2 4).2 32).2 (((rdBytes (rdUint (rdUint ⟨src,false⟩ 1).2 4).2 32).2.rest.length:Int)-16)).2 16).1⟩,true):=by
   unfold decP
   dsimp only
   rw [if_neg hk1,if_neg hk2,if_pos hk3,if_pos hgo,okW_yes hend hgd]
  exact px_rv2 rfl (rv_cella 0 ag_46 rfl rfl (msgC_ta _) (by simp [msgC_len])) (rv_tmp rfl) (fun _ s=>(((s.del 2).del 1).del 0)) ⟨ga16,gc16,by rw [hd];rfl,by rw [hd];rfl⟩
 intro hb7 hp7
 have hk3:¬ ((rdUint ⟨src,false⟩ 1).1:Int)=3:=by omega
 refine R3 ?_
 refine cd_pull1 ?_
 refine R1 ?_
 refine Z6r ?_
 dsimp only [List.take_succ_cons,List.take_zero,List.drop_succ_cons,List.drop_zero]
 refine R1 ?_
 refine Z6s ?_
 refine R1 ?_
 refine Z80 ?_
 refine rg_tail1 ?_
 refine Z2 ?_
 refine Z81 ?_
 refine R5 ?_
 refine Z2 ?_
 refine Z82 ?_
 refine R2 ?_
 refine ols 63 rfl ?_ ?_
 ·intro hb11 hp11
  have hend:endR (rdBytes (rdBytes (rdUint (rdUint ⟨src,false⟩ 1).2 4).2 32).2 16).2=false:=by have h9:(!endR (rdBytes (rdBytes (rdUint (rdUint ⟨src,false⟩ 1).2 4).2 32).2 16).2)=true:=hb11;simpa using h9
  refine Z37 ?_
  refine Z37 ?_
  refine Z37 ?_
  refine oq (op_pick_t (v:=.bool _) rfl hb11 rfl) ?_
  refine Zh ?_
  refine R1 ?_
  refine Z3k ?_
  refine Z7 ?_
  refine Z17 ?_
  refine R5 ?_
  have hd:decP src=(MsgP.zero,false):=by
   unfold decP
   dsimp only
   rw [if_neg hk1,if_neg hk2,if_neg hk3,okW_no (by rintro ⟨q1,q2⟩;rw [hend] at q1;cases q1)]
  exact Z3y
 intro hb11 hp11
 have hend:endR (rdBytes (rdBytes (rdUint (rdUint ⟨src,false⟩ 1).2 4).2 32).2 16).2=true:=by have h9:(!endR (rdBytes (rdBytes (rdUint (rdUint ⟨src,false⟩ 1).2 4).2 32).2 16).2)=false:=hb11;simpa using h9
 refine ol_q (wn_some rfl rfl rfl hb11 rfl) (op_lda (L:=msgC _) 1 ag_46 rfl rfl (msgC_ta _) (by simp [msgC_len])) rfl ?_
 refine ol_i (wn_some rfl rfl rfl hb11 rfl) (os_call cb_121 rfl (fun w s=>WGood_calls (bits:=([]:List Bool)) _ _ _ _ _ _ _ _  s (rds_nil _) (by show 0≤1000;omega) (by first | exact hd1 | (show 0<_;omega)))) rfl ?_;rintro _ _ ⟨rfl,rfl⟩
 refine ol_q (wn_some rfl rfl rfl hb11 rfl) (op_not rfl) rfl ?_
 refine oq (op_pick_f (v:=.bool _) rfl hb11 rfl) ?_
 refine Z8 ?_ ?_
 ·intro hb12 hp12
  have hgd:goodW ((rdUint ⟨src,false⟩ 1).1:Int) ((rdUint (rdUint ⟨src,false⟩ 1).2 4).1:Int) 0 0 []=false:=by have h9:(!goodW ((rdUint ⟨src,false⟩ 1).1:Int) ((rdUint (rdUint ⟨src,false⟩ 1).2 4).1:Int) 0 0 [])=true:=hb12;simpa using h9
  refine R1 ?_
  refine Z3k ?_
  refine Z7 ?_
  refine Z17 ?_
  refine R5 ?_
  have hd:decP src=(MsgP.zero,false):=by
   unfold decP
   dsimp only
   rw [if_neg hk1,if_neg hk2,if_neg hk3,okW_no (by rintro ⟨q1,q2⟩;rw [show goodW _ _ _ _ _=false from hgd] at q2;cases q2)]
  exact Z3y
 intro hb12 hp12
 have hgd:goodW ((rdUint ⟨src,false⟩ 1).1:Int) ((rdUint (rdUint ⟨src,false⟩ 1).2 4).1:Int) 0 0 []=true:=by have h9:(!goodW ((rdUint ⟨src,false⟩ 1).1:Int) ((rdUint (rdUint ⟨src,false⟩ 1).2 4).1:Int) 0 0 [])=false:=hb12;simpa using h9
 refine R4 ?_
 refine Z7 ?_
 refine Z17 ?_
 refine R4 ?_
 have hd:decP src=(⟨(rdUint ⟨src,false⟩ 1).1,(rdUint (rdUint ⟨src,false⟩ 1).2 4).1,(Root.zero.over (rdBytes (rdUint (rdUint ⟨src,false⟩ 1).2 4).2 32).1),0,0,[],Tag.zero.over (rdBytes (rdBytes (rdUint (rdUint ⟨src,false⟩ 1).2 4).2 32).2 16).1⟩,true):=by
  unfold decP
  dsimp only
  rw [if_neg hk1,if_neg hk2,if_neg hk3,okW_yes hend hgd]
 exact Z3y
theorem rds_emp {w0:World} {l:List HProp} {α:Type} (E:Enc α) (ao:Option Addr):Rds w0 l E ao ([]:List α):=fun M w s=>⟨fun _=>rfl,fun ad _ j u hu=>by rw [E.flat_nil] at hu;simp at hu⟩
/-- an item's bytes are a block's -/
def IsB (x:PItem):Prop:=∃ mb tg,x.text.length≤1000∧decP x.text=(⟨1,x.slot,x.par,mb,0,[],tg⟩,true)
def SameB (ys:List OBlk) (d:List PItem):Prop:=ys.map (fun y=>(y.root,y.slot))=d.map (fun x=>(x.root,x.slot))
theorem SameB.len {ys:List OBlk} {d:List PItem} (h:SameB ys d):ys.length=d.length:=by have:=congrArg List.length h;simpa using this
theorem SameB.snoc {ys:List OBlk} {d:List PItem} {i:Nat} (h:SameB ys (d.take i)) (hi:i<d.length) {y:OBlk} (h1:y.root=d[i].root) (h2:y.slot=d[i].slot):SameB (ys++[y]) (d.take (i+1)):=by
 unfold SameB at *
 rw [List.take_succ_eq_append_getElem hi,List.map_append,List.map_append,h]
 simp [h1,h2]
theorem fillOB (r:Root) (v:Msg):fill2 [(0,32),(32,53)] (oBlkC OBlk.zero) [(0,.agg (rootC r).toArray),(1,.agg (msgC v).toArray)]=oBlkC ⟨r,v.kind,v.slot,v.target,v.member,v.body,v.bits,v.tag⟩:=by
 simp only [fill2,List.getElem?_cons_zero,List.getElem?_cons_succ]
 have h1:(Value.agg (rootC r).toArray).cells.toList=rootC r:=by simp [Value.cells]
 have h2:(Value.agg (msgC v).toArray).cells.toList=msgC v:=by simp [Value.cells]
 rw [h1,h2,List.take_zero,List.nil_append]
 have h3:(rootC r++(oBlkC OBlk.zero).drop (0+32)).take 32=rootC r:=by rw [List.take_append_of_le_length (by rw [rootC_len];exact Nat.le_refl _)];exact List.take_of_length_le (by rw [rootC_len];exact Nat.le_refl _)
 rw [h3,List.drop_of_length_le (by simp [rootC_len,oBlkC_len])]
 unfold oBlkC msgC
 simp
theorem PTake0R_calls {w0 w:World} {l:List HProp} (pp:Nat) (most quota:Int) (a:Option Addr) (c:Nat) (d:List PItem) (nb:Nat) (hs:Sat w0 w ((Blk pp (.cells #[.slice a d.length c,.int .i64 most,.int .i64 quota] 186 (0,0)))::(Row 159 encPItem (.slice a d.length c) d)::l)) (hd0:d=[]) :
  Calls Tryz.prog 72 #[.pointer (some ⟨pp,0,none⟩),.func (.func 71) #[] #[.pointer (some ⟨nb,0,none⟩)]] w (Ret w0 fun v l'=>∃ a3 c3,v=.slice none 0 0∧l'=Blk pp (.cells #[.slice a3 ([]:List PItem).length c3,.int .i64 most,.int .i64 quota] 186 (0,0))::Row 159 encPItem (.slice a3 ([]:List PItem).length c3) ([]:List PItem)::l):=by
 refine calls_enter Tryz.func72 rfl rfl rfl hs ?_
 refine R7 ?_
 refine Z4p ?_
 refine Zi ?_
 refine R10 ?_
 refine Z2 ?_
 refine Z2 ?_
 refine oi (os_call cb_113 rfl (fun w s=>PAll_calls _ _ _ _ _ _  s (by rw [hd0];decide))) ?_;rintro _ _ ⟨aa1,ac1,ad1,hpm,rfl,rfl⟩;have hal:ad1=[]:=by rw [hd0] at hpm;exact hpm.eq_nil
 refine Z6o ?_
 refine R4 ?_
 refine Z7u ?_
 refine Z7u ?_
 refine cd_loop2 (α:=Unit) [(5,6),(8,8),(14,29)] (fun x=>[(5,.slice none 0 0),(6,.slice none 0 0),(14,.int .i64 0)]) (fun _=>_) (fun x=>True) (fun x=>0) () trivial ⟨rfl,rfl,rfl,trivial⟩ (fun _ s=>s) ?_
 rintro ⟨⟩ _ f;(try dsimp only)
 refine Z3 ?_ ?_
 ·intro hb1 hp1
  rw [hal] at hb1;exact absurd (of_decide_eq_true hb1) (by decide)
 intro hb1 hp1
 refine R10 ?_
 refine Zg ?_
 refine oN (os_store (v:=.slice _ _ _) sc_184 rfl rfl rfl rfl (Free.zero _) rfl) ?_;rintro _ _ ⟨rfl,rfl⟩
 refine R6 ?_
 refine oq (op_mkif Tryz.underlying227 rfl rfl) ?_
 refine Z2 ?_
 refine Z2 ?_
 refine oi (os_call cb_114 rfl (fun w s=>HInit_calls (a:=none) (c:=0) (d:=[]) _ _ _  s (by decide))) ?_;rintro _ _ ⟨hd2,hp2,rfl,rfl⟩
 refine R8 ?_
 obtain rfl:=hp2.eq_nil
 exact px_ret1 rfl (v:=.slice _ _ _) rfl (fun _ s=>(((s.del 4).del 3).del 2)) ⟨_,_,rfl,rfl⟩
theorem PTake0_calls {w0 w:World} {l:List HProp} (pp:Nat) (most quota:Int) (nb:Nat) (hs:Sat w0 w (PoolObj pp most quota []::l))  : Calls Tryz.prog 72 #[.pointer (some ⟨pp,0,none⟩),.func (.func 71) #[] #[.pointer (some ⟨nb,0,none⟩)]] w (Ret w0 fun v l'=>v=.slice none 0 0∧l'=PoolObj pp most quota []::l):=by
 obtain ⟨a,c,d,hd,hs⟩:=hs.poolOpen
 refine (PTake0R_calls pp most quota a c d nb hs hd.eq_nil).mono fun e w1 ⟨v,l1,he,hR,s⟩=>?_
 obtain ⟨a3,c3,rfl,rfl⟩:=hR
 exact ⟨_,_,he,⟨rfl,rfl⟩,Sat.poolMk (d:=[]) (List.Perm.refl _) rfl rfl s⟩
theorem PTake_calls {w0 w:World} {l:List HProp} (pp:Nat) (most quota:Int) (L:List PItem) (rb:Nat) (r:Root) (hs:Sat w0 w (PoolObj pp most quota L::Blk rb (.cells (rootC r).toArray 35 (0,0))::l)) (hL:L.length≤500):Calls Tryz.prog 72 #[.pointer (some ⟨pp,0,none⟩),.func (.func 193) #[] #[.pointer (some ⟨rb,0,none⟩)]] w (Ret w0 fun v l'=>∃ a2 c2 out,out.Perm (L.filter fun y=>decide (y.par=r))∧v=.slice a2 out.length c2∧l'=Row 159 encPItem (.slice a2 out.length c2) out::PoolObj pp most quota (L.filter fun y=>!decide (y.par=r))::Blk rb (.cells (rootC r).toArray 35 (0,0))::l):=by
 obtain ⟨a,c,d,hd,hs⟩:=hs.poolOpen
 refine (PTakeR_calls pp most quota a c d rb r hs (by have:=hd.length_eq;omega)).mono fun e w1 ⟨v,l1,he,⟨a2,c2,out,a3,c3,d3,h1,h2,hv,hl⟩,s⟩=>?_
 subst hv hl
 exact ⟨_,_,he,⟨a2,c2,out,h1.trans (hd.filter _),rfl,rfl⟩,(Sat.poolMk (h2.trans (hd.filter _)) rfl rfl ((s.pull 2).pull 2)).pull 1⟩
theorem DecB_calls {w0 w:World} {l:List HProp} (src:List UInt8) (sl:Int) (tg:Root) (mb:Int) (tag:Tag) (hs:Sat w0 w l) (h1:src.length≤1000) (hd:decP src=(⟨1,sl,tg,mb,0,[],tag⟩,true)):Calls Tryz.prog 73 #[.string (B src)] w (Ret w0 fun v l'=>∃ ao c,v=.tuple #[.agg (msgC ⟨1,sl,tg,mb,0,⟨ao,0,c⟩,tag⟩).toArray,.bool true]∧l'=l) :=
 (Decode_calls src hs (by omega)).mono fun e w1 ⟨v,l1,he,⟨ao,c,hv,hl⟩,s⟩=>by
  rw [hd] at hv hl
  subst hv hl
  exact ⟨_,_,he,⟨ao,c,rfl,rfl⟩,s.drop⟩
theorem OrHas_calls {w0 w:World} {l:List HProp} (po pp:Nat) (most quota:Int) (L:List PItem) (r:Root) (hs:Sat w0 w ((Blk po (.cells #[.pointer (some ⟨pp,0,none⟩)] 111 (0,0)))::(PoolObj pp most quota L)::l)) (hL:L.length≤1000) :
  Calls Tryz.prog 267 #[.pointer (some ⟨po,0,none⟩),.agg (rootC r).toArray] w (Ret w0 fun v l'=>v=.bool (decide (∃ x∈L,x.root=r))∧l'=Blk po (.cells #[.pointer (some ⟨pp,0,none⟩)] 111 (0,0))::PoolObj pp most quota L::l):=by
 refine calls_enter Tryz.func267 rfl rfl rfl hs ?_
 refine Z5 ?_;intro bx1
 refine R4 ?_
 refine Zo ?_
 refine R1 ?_
 refine rg_q (wn_none rfl) (op_nenil Tryz.underlying59 rfl rfl) rfl rfl ?_
 refine R1 ?_
 refine rg_q (wn_some rfl rfl rfl rfl rfl) (op_move (v:=.pointer _) rfl) rfl rfl ?_
 refine rg_q (wn_some rfl rfl rfl rfl rfl) (op_nilck rfl) rfl rfl ?_
 refine rg_q (wn_some rfl rfl rfl rfl rfl) (op_field fld_111_0 rfl) rfl rfl ?_
 refine rg_q (wn_some rfl rfl rfl rfl rfl) (op_ld 1 sc_109 rfl rfl rfl) rfl rfl ?_
 refine rg_q (wn_some rfl rfl rfl rfl rfl) (op_lda (L:=rootC _) 0 ag_35 rfl rfl (rootC_take' _) (by simp [rootC_len])) rfl rfl ?_
 refine rg_soft (wn_some rfl rfl rfl rfl rfl) cb_170 ci_170 (fun M=>os_back (os_pull2 (os_call cb_170 rfl (fun w s=>PHas_calls _ _ _ _ _  s (by omega)))) (fun _ s=>((s.pull 2).pull 2))) ?_
 refine rg_q (wn_none rfl) (op_pick_t (v:=.bool _) rfl rfl rfl) rfl rfl ?_
 refine Z1z ?_
 refine R1 ?_
 exact Z4q
theorem Blocks_calls {w0 w:World} {l:List HProp} (a:Option Addr) (c:Nat) (d:List PItem) (hs:Sat w0 w (l)) (hr:Rds w0 l encPItem a d) (hd:d.length≤1000) (hB:∀ x∈d,IsB x) :
  Calls Tryz.prog 192 #[.slice a d.length c] w (Ret w0 fun v l'=>∃ a2 c2 ys,SameB ys d∧v=.slice a2 ys.length c2∧l'=Row 289 encOBlk (.slice a2 ys.length c2) ys::l):=by
 refine calls_enter Tryz.func192 rfl rfl rfl hs ?_
 refine R11 ?_
 refine Z6o ?_
 refine R4 ?_
 refine cd_imp (fun _ s=>Sat.rowNil (E:=encOBlk) (e:=289) s) ?_
 refine cd_loop2 (α:=Nat×(Option Addr×Nat)×List OBlk) [(3,3),(5,7),(10,27)] (fun x=>[(3,.slice x.2.1.1 x.2.2.length x.2.1.2),(10,.int .i64 (x.1:Int))]) (fun x=>Row 289 encOBlk (.slice x.2.1.1 x.2.2.length x.2.1.2) x.2.2::l) (fun x=>x.1≤d.length∧SameB x.2.2 (d.take x.1)) (fun x=>d.length-x.1) (0,(none,0),[]) ⟨Nat.zero_le _,rfl⟩ ⟨rfl,rfl,trivial⟩ (fun _ s=>s) ?_
 rintro ⟨i,⟨b1,d1⟩,ys⟩ ⟨hi,hys⟩ f;(try dsimp only at hi hys ⊢)
 refine Z3 ?_ ?_
 ·intro hb1 hp1
  have hi1:i<d.length:=by omega
  have hyl:=hys.len
  rw [List.length_take] at hyl
  obtain ⟨mb,tg,hxl,hdec⟩:=hB _ (List.getElem_mem hi1)
  refine R5 ?_
  refine oq (op_index i sB_161 rfl rfl rfl (hr.cons _) rfl (by omega)) ?_
  refine oq (op_ldaw (L:=pItemC _) ag_159 (hr.cons _) rfl (by omega) rfl (pItemC_ta _)) ?_
  refine Z7s ?_;intro bx1
  refine Z7t ?_
  refine R5 ?_
  refine oi (os_call cb_73 rfl (fun w s=>by have q:=DecB_calls (src:=(d[i]'hi1).text) (sl:=(d[i]'hi1).slot) (tg:=(d[i]'hi1).par) (mb:=mb) (tag:=tg)  s hxl hdec;exact q)) ?_;rintro _ _ ⟨da1,dc1,rfl,rfl⟩
  refine R3 ?_
  refine Z3x ?_;intro bx2
  refine Z17 ?_
  refine R8 ?_
  refine oq (op_build (L:=oBlkC ⟨d[i].root,1,d[i].slot,d[i].par,mb,0,⟨_,0,_⟩,tg⟩) (vs:=[(0,.agg (rootC _).toArray),(1,.agg (msgC _).toArray)]) bBo_289 rfl ⟨⟨by simp [Value.cells,rootC_len],by rw [oBlkC_len];rfl⟩,⟨by simp [Value.cells,msgC_len],by rw [oBlkC_len];rfl⟩,trivial⟩ (fillOB _ _)) ?_
  refine oi (os_bslice (E:=encOBlk) [_] (ys:=[_]) sB_286 zv_289 rfl rfl rfl rfl (by decide)) ?_;rintro _ _ ⟨ao1,rfl,rfl⟩
  refine Zg ?_
  refine oi (os_append (E:=encOBlk) rfl sB_286 zv_289 rfl rfl rfl (fun w s=>(rds_row 1 rfl rfl) [] w s) rfl (by simp;omega) (by unfold maxLen;simp;omega)) ?_;rintro _ _ ⟨ao2,ac2,rfl,rfl⟩
  refine R8 ?_
  refine px_loop2 (i+1,(ao2,ac2),_) ⟨by (try dsimp only);omega,hys.snoc hi1 rfl rfl⟩ (by (try dsimp only);omega) ⟨rfl,congrArg (Value.int .i64) (by simp),trivial⟩ ?_ (fun _ s=>(((s.del 3).del 2).del 1))
  exact Z0
 intro hb1 hp1
 have hie:i=d.length:=by omega
 rw [hie,List.take_length] at hys
 refine R11 ?_
 exact px_ret1 rfl (v:=.slice _ _ _) rfl (fun _ s=>s) ⟨_,_,_,hys,rfl,rfl⟩
theorem OrOf_calls {w0 w:World} {l:List HProp} (po pp:Nat) (most quota:Int) (L:List PItem) (r:Root) (hs:Sat w0 w ((Blk po (.cells #[.pointer (some ⟨pp,0,none⟩)] 111 (0,0)))::(PoolObj pp most quota L)::l)) (hL:L.length≤500) (hB:∀ x∈L,IsB x) :
  Calls Tryz.prog 169 #[.pointer (some ⟨po,0,none⟩),.agg (rootC r).toArray] w (Ret w0 fun v l'=>∃ a2 c2 ys out,out.Perm (L.filter fun y=>decide (y.par=r))∧SameB ys out∧v=.slice a2 ys.length c2∧l'=Row 289 encOBlk (.slice a2 ys.length c2) ys::Blk po (.cells #[.pointer (some ⟨pp,0,none⟩)] 111 (0,0))::PoolObj pp most quota (L.filter fun y=>!decide (y.par=r))::l):=by
 refine calls_enter Tryz.func169 rfl rfl rfl hs ?_
 refine Z5 ?_;intro bx1
 refine R6 ?_
 refine oq (op_eqnil Tryz.underlying59 rfl rfl) ?_
 refine Z2o ?_
 refine oq (op_makefunc (F:=[]) (C:=[_]) rfl rfl) ?_
 refine Z7 ?_
 refine oi (os_call cb_72 rfl (fun w s=>PTake_calls _ _ _ _ _ _  s (by omega))) ?_;rintro _ _ ⟨ta1,tc1,to1,hto1,rfl,rfl⟩
 refine oi (os_call cb_192 rfl (fun w s=>Blocks_calls _ _ _  s (rds_row 0 rfl rfl) (by have:=hto1.length_eq;have:=List.length_filter_le (fun y:PItem=>decide (y.par=r)) L;omega) (fun x hx=>hB x (List.mem_filter.1 (hto1.mem_iff.1 hx)).1))) ?_;rintro _ _ ⟨ba2,bc2,bs2,hbs2,rfl,rfl⟩
 refine R4 ?_
 exact px_ret1 rfl (v:=.slice _ _ _) rfl (fun _ s=>(s.arr 5 [0,4,2])) ⟨_,_,_,_,hto1,hbs2,rfl,rfl⟩
theorem Rot_calls {w0 w:World} {l:List HProp} (X:UInt32) (j k:Int) (hs:Sat w0 w (l)) (hj:j=-k) (h0:0<k) (h1:k<32) :
  Calls Tryz.prog 241 #[.int .u32 (X.toNat:Int),.int .i64 j] w (Ret w0 fun v l'=>v=.int .u32 ((rotr X k.toNat).toNat:Int)∧l'=l):=by
 have hu:u64N j=18446744073709551616-k.toNat:=by unfold u64N;omega
 refine calls_enter Tryz.func241 rfl rfl rfl hs ?_
 refine R6 ?_
 refine oq (op_conv64i Tryz.underlying25 (by rw [Tryz.underlying3];rfl) rfl) ?_
 refine oq (op_and31 (m:=32-k.toNat) rfl (by omega) rfl (by omega)) ?_
 refine R6 ?_
 refine oq (op_shl32 (m:=32-k.toNat) _ rfl rfl (by omega)) ?_
 refine R2 ?_
 refine oq (op_sub32m (k:=k.toNat) rfl rfl (by omega)) ?_
 refine oq (op_shr32 (m:=k.toNat) _ rfl rfl (by omega)) ?_
 refine oq (op_or32 _ _ rfl rfl) ?_
 refine R4 ?_
 exact Z2p
theorem turn_calls {w0 w:World} {l:List HProp} (X:UInt32) (k:Int) (hs:Sat w0 w (l)) (h0:0<k) (h1:k<32) :
  Calls Tryz.prog 223 #[.int .u32 (X.toNat:Int),.int .i64 k] w (Ret w0 fun v l'=>v=.int .u32 ((rotr X k.toNat).toNat:Int)∧l'=l):=by
 refine calls_enter Tryz.func223 rfl rfl rfl hs ?_
 refine R7 ?_
 refine oq (op_neg rfl) ?_
 refine oi (os_call cb_241 rfl (fun w s=>Rot_calls _ _ _  s (show _=-k by rw [wrap_i64 (by omega) (by omega)];omega) h0 h1)) ?_;rintro _ _ ⟨rfl,rfl⟩
 refine R4 ?_
 exact Z2p
theorem first_calls {w0 w:World} {l:List HProp}  (hs:Sat w0 w (l))  :
  Calls Tryz.prog 174 #[] w (Ret w0 fun v l'=>v=.agg (w8C H8).toArray∧l'=l):=by
 refine calls_enter Tryz.func174 rfl rfl rfl hs ?_
 refine R1 ?_
 refine Z9d ?_;intro bx1
 refine R3 ?_
 refine oq (op_builda (L:=wC H0) (vs:=[(0,.int .u32 1779033703),(1,.int .u32 3144134277),(2,.int .u32 1013904242),(3,.int .u32 2773480762),(4,.int .u32 1359893119),(5,.int .u32 2600822924),(6,.int .u32 528734635),(7,.int .u32 1541459225)]) ba_146 rfl (by kernel_rfl)) ?_
 refine oN (os_storew (wC _) ag_146 rfl rfl (by rw [wC_len];rfl) (wC_one _) (by simp [wC_len,w8C_len]) (Free.zero _)) ?_;rintro _ _ ⟨rfl,rfl⟩
 refine R3 ?_
 exact px_rv1 rfl (rv_cella 0 ag_146 rfl rfl (List.take_of_length_le (by first | (simp [wC_len,H0];done) | (simp [wC_len];omega))) (by first | (simp [wC_len,H0];done) | (simp [wC_len];omega))) (fun _ s=>(s.del 0)) ⟨rfl,rfl⟩
theorem keys_calls {w0 w:World} {l:List HProp}  (hs:Sat w0 w (l))  :
  Calls Tryz.prog 222 #[] w (Ret w0 fun v l'=>v=.agg (wC K64).toArray∧l'=l):=by
 refine calls_enter Tryz.func222 rfl rfl rfl hs ?_
 refine R1 ?_
 refine Z6t ?_;intro bx1
 refine R3 ?_
 refine oq (op_builda (L:=wC K64) (vs:=[(0,.int .u32 1116352408),(1,.int .u32 1899447441),(2,.int .u32 3049323471),(3,.int .u32 3921009573),(4,.int .u32 961987163),(5,.int .u32 1508970993),(6,.int .u32 2453635748),(7,.int .u32 2870763221),(8,.int .u32 3624381080),(9,.int .u32 310598401),(10,.int .u32 607225278),(11,.int .u32 1426881987),(12,.int .u32 1925078388),(13,.int .u32 2162078206),(14,.int .u32 2614888103),(15,.int .u32 3248222580),(16,.int .u32 3835390401),(17,.int .u32 4022224774),(18,.int .u32 264347078),(19,.int .u32 604807628),(20,.int .u32 770255983),(21,.int .u32 1249150122),(22,.int .u32 1555081692),(23,.int .u32 1996064986),(24,.int .u32 2554220882),(25,.int .u32 2821834349),(26,.int .u32 2952996808),(27,.int .u32 3210313671),(28,.int .u32 3336571891),(29,.int .u32 3584528711),(30,.int .u32 113926993),(31,.int .u32 338241895),(32,.int .u32 666307205),(33,.int .u32 773529912),(34,.int .u32 1294757372),(35,.int .u32 1396182291),(36,.int .u32 1695183700),(37,.int .u32 1986661051),(38,.int .u32 2177026350),(39,.int .u32 2456956037),(40,.int .u32 2730485921),(41,.int .u32 2820302411),(42,.int .u32 3259730800),(43,.int .u32 3345764771),(44,.int .u32 3516065817),(45,.int .u32 3600352804),(46,.int .u32 4094571909),(47,.int .u32 275423344),(48,.int .u32 430227734),(49,.int .u32 506948616),(50,.int .u32 659060556),(51,.int .u32 883997877),(52,.int .u32 958139571),(53,.int .u32 1322822218),(54,.int .u32 1537002063),(55,.int .u32 1747873779),(56,.int .u32 1955562222),(57,.int .u32 2024104815),(58,.int .u32 2227730452),(59,.int .u32 2361852424),(60,.int .u32 2428436474),(61,.int .u32 2756734187),(62,.int .u32 3204031479),(63,.int .u32 3329325298)]) ba_150 rfl (by kernel_rfl)) ?_
 refine oN (os_storew (wC _) ag_150 rfl rfl (by rw [wC_len];rfl) (wC_one _) (by simp [wC_len,w8C_len]) (Free.zero _)) ?_;rintro _ _ ⟨rfl,rfl⟩
 refine R3 ?_
 exact px_rv1 rfl (rv_cella 0 ag_150 rfl rfl (List.take_of_length_le (by first | (simp [wC_len,K64_len];done) | (simp [wC_len];omega))) (by first | (simp [wC_len,K64_len];done) | (simp [wC_len];omega))) (fun _ s=>(s.del 0)) ⟨rfl,rfl⟩
theorem lay_calls {w0 w:World} {l:List HProp} (bo:Option Addr) (bc:Nat) (bs:List UInt8) (hs:Sat w0 w (l)) (hr:Rds w0 l encU8 bo bs) (hb:bs.length=64) :
  Calls Tryz.prog 221 #[.slice bo bs.length bc] w (Ret w0 fun v l'=>v=.agg (wC (layM bs)).toArray∧l'=l):=by
 refine calls_enter Tryz.func221 rfl rfl rfl hs ?_
 refine R1 ?_
 refine Z6t ?_;intro bx1
 refine R3 ?_
 refine Z6t ?_;intro bx2
 refine R8 ?_
 refine cd_loop2 (α:=Nat) [(4,4),(8,46)] (fun x=>[(8,.int .i64 (x:Int))]) (fun x=>Blk bx2 (.cells (wC (fillA (w16 bs x))).toArray 150 (0,0))::Blk bx1 (.cells (wC (List.replicate 64 0)).toArray 150 (0,0))::l) (fun x=>x≤16) (fun x=>16-x) 0 (Nat.zero_le _) ⟨rfl,trivial⟩ (fun _ s=>s) ?_
 rintro i hi f;(try dsimp only at hi ⊢)
 refine Z3 ?_ ?_
 ·intro hb1 hp1
  refine R9 ?_
  refine cd_drawt (M:=[]) mx [] 35 (by kernel_rfl) rfl rfl ?_
  dsimp only [List.take_succ_cons,List.take_zero,List.drop_succ_cons,List.drop_zero]
  refine R3 ?_
  refine Z6u ?_
  refine rg_q (wn_none rfl) (op_index (4*i) sB_97 rfl rfl (by omega) ((hr.cons _).cons _) rfl (by omega)) rfl rfl ?_
  refine Z83 ?_
  refine Z6v ?_
  refine rg_q (wn_none rfl) (op_shl32 (m:=24) _ rfl rfl (by decide)) rfl rfl ?_
  refine R2 ?_
  refine Z6u ?_
  refine R1 ?_
  refine rg_q (wn_none rfl) (op_index (4*i+1) sB_97 rfl rfl (by omega) ((hr.cons _).cons _) rfl (by omega)) rfl rfl ?_
  refine Z83 ?_
  refine Z6v ?_
  refine rg_q (wn_none rfl) (op_shl32 (m:=16) _ rfl rfl (by decide)) rfl rfl ?_
  refine rg_q (wn_none rfl) (op_or32 _ _ rfl rfl) rfl rfl ?_
  refine R2 ?_
  refine Z6u ?_
  refine R1 ?_
  refine rg_q (wn_none rfl) (op_index (4*i+2) sB_97 rfl rfl (by omega) ((hr.cons _).cons _) rfl (by omega)) rfl rfl ?_
  refine Z83 ?_
  refine Z6v ?_
  refine rg_q (wn_none rfl) (op_shl32 (m:=8) _ rfl rfl (by decide)) rfl rfl ?_
  refine rg_q (wn_none rfl) (op_or32 _ _ rfl rfl) rfl rfl ?_
  refine R2 ?_
  refine Z6u ?_
  refine R1 ?_
  refine rg_q (wn_none rfl) (op_index (4*i+3) sB_97 rfl rfl (by omega) ((hr.cons _).cons _) rfl (by omega)) rfl rfl ?_
  refine Z83 ?_
  refine Z6v ?_
  refine rg_q (wn_none rfl) (op_or32 _ _ rfl rfl) rfl rfl ?_
  refine rg_q (wn_none rfl) (op_aidx0 _ a1_150 rfl rfl rfl (by omega)) rfl rfl ?_
  refine rg_tail0 ?_
  refine oN (os_store (v:=.int _ _) sc_145 rfl rfl rfl (Nat.ble_eq_true_of_le (show i+1≤_ by rw [List.size_toArray,wC_len,fillA_len (by rw [w16_len];omega)];omega)) (Free.zero _) (fillA_st (by rw [w16_len]) (by rw [w16_len];omega) _)) ?_;rintro _ _ ⟨rfl,rfl⟩
  refine R7 ?_
  have e1:w16 bs (i+1)=w16 bs i++[shl32 (UInt32.ofNat (bs[4*i]'(by omega)).toNat) 24 ||| shl32 (UInt32.ofNat (bs[4*i+1]'(by omega)).toNat) 16 ||| shl32 (UInt32.ofNat (bs[4*i+2]'(by omega)).toNat) 8 ||| UInt32.ofNat (bs[4*i+3]'(by omega)).toNat]:=by
   rw [w16_succ]
   unfold word byteW
   simp only [List.getD_eq_getElem?_getD,List.getElem?_eq_getElem (show 4*i<bs.length by omega),List.getElem?_eq_getElem (show 4*i+1<bs.length by omega),List.getElem?_eq_getElem (show 4*i+2<bs.length by omega),List.getElem?_eq_getElem (show 4*i+3<bs.length by omega),Option.getD_some]
  exact Ze
 intro hb1 hp1
 refine R11 ?_
 obtain rfl:i=16:=by omega
 refine cd_loop2 (α:=Nat) [(5,7),(47,87)] (fun x=>[(5,.int .i64 ((x+16:Nat):Int))]) (fun x=>Blk bx2 (.cells (wC (fillA (sch x (w16 bs 16)))).toArray 150 (0,0))::Blk bx1 (.cells (wC (List.replicate 64 0)).toArray 150 (0,0))::l) (fun x=>x≤48) (fun x=>48-x) 0 (Nat.zero_le _) ⟨rfl,trivial⟩ (fun _ s=>s) ?_
 rintro k hk f;(try dsimp only at hk ⊢);have hml:(sch k (w16 bs 16)).length=k+16:=by rw [sch_len,w16_len]
 have hfl:(fillA (sch k (w16 bs 16))).length=64:=fillA_len (by omega)
 refine Z1u ?_ ?_
 ·intro hb2 hp2
  have hk48:k<48:=by omega
  refine R5 ?_
  refine Zo ?_
  refine R2 ?_
  refine rg_q (wn_none rfl) (op_aidx0 (k+1) a1_150 rfl rfl (by omega) (by omega)) rfl rfl ?_
  refine Z84 ?_
  refine R2 ?_
  refine rg_q (wn_none rfl) (op_aidx0 (k+14) a1_150 rfl rfl (by omega) (by omega)) rfl rfl ?_
  refine Z84 ?_
  refine R2 ?_
  refine Zu ?_
  refine cd_drawe (M:=[_]) mx [4,6,8,17,20,22,29] ?_
  refine Z4x ?_
  refine Z4s ?_
  refine e_q 2 rfl (wn_none rfl) (op_sub rfl rfl (by omega) (by omega)) ?_
  refine e_q 3 rfl (wn_none rfl) (op_aidx0 k a1_150 rfl rfl (by omega) (by omega)) ?_
  refine Z59 ?_
  refine e_q 7 rfl (wn_none rfl) (op_move (v:=.int _ _) rfl) ?_
  refine e_q 10 rfl (wn_none rfl) (op_move (v:=.int _ _) rfl) ?_
  refine e_q 11 rfl (wn_none rfl) (op_shr32 (m:=3) _ rfl rfl (by decide)) ?_
  refine e_q 14 rfl (wn_none rfl) (op_move (v:=.int _ _) rfl) ?_
  refine e_q 15 rfl (wn_none rfl) (op_sub rfl rfl (by omega) (by omega)) ?_
  refine e_q 16 rfl (wn_none rfl) (op_aidx0 (k+9) a1_150 rfl rfl (by omega) (by omega)) ?_
  refine e_q 19 rfl (wn_none rfl) (op_move (v:=.int _ _) rfl) ?_
  refine e_q 21 rfl (wn_none rfl) (op_move (v:=.int _ _) rfl) ?_
  refine e_q 24 rfl (wn_none rfl) (op_move (v:=.int _ _) rfl) ?_
  refine e_q 25 rfl (wn_none rfl) (op_shr32 (m:=10) _ rfl rfl (by decide)) ?_
  refine et_3 (i1:=4) (i2:=6) (i3:=17) (by kernel_rfl) ?_ ?_ ?_
  ·
   refine Zd ?_
   refine et_2 (i1:=6) (i2:=17) (by kernel_rfl) ?_ ?_
   ·
    refine Z6w ?_
    refine et_2 (i1:=8) (i2:=17) (by kernel_rfl) ?_ ?_
    ·
     refine Z3d ?_
     refine Z3z ?_
     refine et_2 (i1:=17) (i2:=20) (by kernel_rfl) ?_ ?_
     ·
      refine Zd ?_
      refine Z2z ?_
      have e1:sch (k+1) (w16 bs 16)=sch k (w16 bs 16)++[next16 (sch k (w16 bs 16))]:=rfl
      unfold next16 at e1
      rw [hml,show k+16-16=k by omega,show k+16-15=k+1 by omega,show k+16-7=k+9 by omega,show k+16-2=k+14 by omega] at e1
      exact Zk
     refine Z4f ?_
     refine et_2 (i1:=17) (i2:=22) (by kernel_rfl) ?_ ?_
     ·
      refine Zd ?_
      refine Z1l ?_
      refine Z45 ?_
      have e1:sch (k+1) (w16 bs 16)=sch k (w16 bs 16)++[next16 (sch k (w16 bs 16))]:=rfl
      unfold next16 at e1
      rw [hml,show k+16-16=k by omega,show k+16-15=k+1 by omega,show k+16-7=k+9 by omega,show k+16-2=k+14 by omega] at e1
      exact Zk
     refine Z3l ?_
     refine Z1m ?_
     refine Z7i ?_
     refine Z1k ?_
     refine Z3b ?_
     have e1:sch (k+1) (w16 bs 16)=sch k (w16 bs 16)++[next16 (sch k (w16 bs 16))]:=rfl
     unfold next16 at e1
     rw [hml,show k+16-16=k by omega,show k+16-15=k+1 by omega,show k+16-7=k+9 by omega,show k+16-2=k+14 by omega] at e1
     exact Zk
    refine Zd ?_
    refine Zw ?_
    refine Z3d ?_
    refine Z3z ?_
    refine Z2z ?_
    have e1:sch (k+1) (w16 bs 16)=sch k (w16 bs 16)++[next16 (sch k (w16 bs 16))]:=rfl
    unfold next16 at e1
    rw [hml,show k+16-16=k by omega,show k+16-15=k+1 by omega,show k+16-7=k+9 by omega,show k+16-2=k+14 by omega] at e1
    exact Zk
   refine Zd ?_
   refine Zs ?_
   refine Z6w ?_
   refine Zw ?_
   refine Z3d ?_
   refine Z3z ?_
   refine Z2z ?_
   have e1:sch (k+1) (w16 bs 16)=sch k (w16 bs 16)++[next16 (sch k (w16 bs 16))]:=rfl
   unfold next16 at e1
   rw [hml,show k+16-16=k by omega,show k+16-15=k+1 by omega,show k+16-7=k+9 by omega,show k+16-2=k+14 by omega] at e1
   exact Zk
  ·
   refine Z6w ?_
   refine et_3 (i1:=4) (i2:=8) (i3:=17) (by kernel_rfl) ?_ ?_ ?_
   ·
    refine Zd ?_
    refine et_2 (i1:=8) (i2:=17) (by kernel_rfl) ?_ ?_
    ·
     refine Z3d ?_
     refine Z3z ?_
     refine et_2 (i1:=17) (i2:=20) (by kernel_rfl) ?_ ?_
     ·
      refine Zd ?_
      refine Z2z ?_
      have e1:sch (k+1) (w16 bs 16)=sch k (w16 bs 16)++[next16 (sch k (w16 bs 16))]:=rfl
      unfold next16 at e1
      rw [hml,show k+16-16=k by omega,show k+16-15=k+1 by omega,show k+16-7=k+9 by omega,show k+16-2=k+14 by omega] at e1
      exact Zk
     refine Z4f ?_
     refine et_2 (i1:=17) (i2:=22) (by kernel_rfl) ?_ ?_
     ·
      refine Zd ?_
      refine Z1l ?_
      refine Z45 ?_
      have e1:sch (k+1) (w16 bs 16)=sch k (w16 bs 16)++[next16 (sch k (w16 bs 16))]:=rfl
      unfold next16 at e1
      rw [hml,show k+16-16=k by omega,show k+16-15=k+1 by omega,show k+16-7=k+9 by omega,show k+16-2=k+14 by omega] at e1
      exact Zk
     refine Z3l ?_
     refine Z1m ?_
     refine Z7i ?_
     refine Z1k ?_
     refine Z3b ?_
     have e1:sch (k+1) (w16 bs 16)=sch k (w16 bs 16)++[next16 (sch k (w16 bs 16))]:=rfl
     unfold next16 at e1
     rw [hml,show k+16-16=k by omega,show k+16-15=k+1 by omega,show k+16-7=k+9 by omega,show k+16-2=k+14 by omega] at e1
     exact Zk
    refine Zd ?_
    refine Zw ?_
    refine Z3d ?_
    refine Z3z ?_
    refine Z2z ?_
    have e1:sch (k+1) (w16 bs 16)=sch k (w16 bs 16)++[next16 (sch k (w16 bs 16))]:=rfl
    unfold next16 at e1
    rw [hml,show k+16-16=k by omega,show k+16-15=k+1 by omega,show k+16-7=k+9 by omega,show k+16-2=k+14 by omega] at e1
    exact Zk
   ·
    refine Z3d ?_
    refine et_3 (i1:=4) (i2:=17) (i3:=20) (by kernel_rfl) ?_ ?_ ?_
    ·
     refine Z29 ?_
     refine et_2 (i1:=17) (i2:=20) (by kernel_rfl) ?_ ?_
     ·
      refine Zd ?_
      refine Z2z ?_
      have e1:sch (k+1) (w16 bs 16)=sch k (w16 bs 16)++[next16 (sch k (w16 bs 16))]:=rfl
      unfold next16 at e1
      rw [hml,show k+16-16=k by omega,show k+16-15=k+1 by omega,show k+16-7=k+9 by omega,show k+16-2=k+14 by omega] at e1
      exact Zk
     refine Z4f ?_
     refine et_2 (i1:=17) (i2:=22) (by kernel_rfl) ?_ ?_
     ·
      refine Zd ?_
      refine Z1l ?_
      refine Z45 ?_
      have e1:sch (k+1) (w16 bs 16)=sch k (w16 bs 16)++[next16 (sch k (w16 bs 16))]:=rfl
      unfold next16 at e1
      rw [hml,show k+16-16=k by omega,show k+16-15=k+1 by omega,show k+16-7=k+9 by omega,show k+16-2=k+14 by omega] at e1
      exact Zk
     refine Z3l ?_
     refine Z1m ?_
     refine Z7i ?_
     refine Z1k ?_
     refine Z3b ?_
     have e1:sch (k+1) (w16 bs 16)=sch k (w16 bs 16)++[next16 (sch k (w16 bs 16))]:=rfl
     unfold next16 at e1
     rw [hml,show k+16-16=k by omega,show k+16-15=k+1 by omega,show k+16-7=k+9 by omega,show k+16-2=k+14 by omega] at e1
     exact Zk
    ·
     refine Zd ?_
     refine Z5o ?_ ?_
     ·
      refine Z29 ?_
      refine Z2z ?_
      have e1:sch (k+1) (w16 bs 16)=sch k (w16 bs 16)++[next16 (sch k (w16 bs 16))]:=rfl
      unfold next16 at e1
      rw [hml,show k+16-16=k by omega,show k+16-15=k+1 by omega,show k+16-7=k+9 by omega,show k+16-2=k+14 by omega] at e1
      exact Zk
     refine Z4f ?_
     refine Z4g ?_ ?_
     ·
      refine Z29 ?_
      refine Z1l ?_
      refine Z45 ?_
      have e1:sch (k+1) (w16 bs 16)=sch k (w16 bs 16)++[next16 (sch k (w16 bs 16))]:=rfl
      unfold next16 at e1
      rw [hml,show k+16-16=k by omega,show k+16-15=k+1 by omega,show k+16-7=k+9 by omega,show k+16-2=k+14 by omega] at e1
      exact Zk
     refine Z3l ?_
     refine Z1m ?_
     refine Z1d ?_
     refine Z29 ?_
     refine Z1k ?_
     refine Z3b ?_
     have e1:sch (k+1) (w16 bs 16)=sch k (w16 bs 16)++[next16 (sch k (w16 bs 16))]:=rfl
     unfold next16 at e1
     rw [hml,show k+16-16=k by omega,show k+16-15=k+1 by omega,show k+16-7=k+9 by omega,show k+16-2=k+14 by omega] at e1
     exact Zk
    refine Z4f ?_
    refine et_3 (i1:=4) (i2:=17) (i3:=22) (by kernel_rfl) ?_ ?_ ?_
    ·
     refine Z29 ?_
     refine et_2 (i1:=17) (i2:=22) (by kernel_rfl) ?_ ?_
     ·
      refine Zd ?_
      refine Z1l ?_
      refine Z45 ?_
      have e1:sch (k+1) (w16 bs 16)=sch k (w16 bs 16)++[next16 (sch k (w16 bs 16))]:=rfl
      unfold next16 at e1
      rw [hml,show k+16-16=k by omega,show k+16-15=k+1 by omega,show k+16-7=k+9 by omega,show k+16-2=k+14 by omega] at e1
      exact Zk
     refine Z3l ?_
     refine Z1m ?_
     refine Z7i ?_
     refine Z1k ?_
     refine Z3b ?_
     have e1:sch (k+1) (w16 bs 16)=sch k (w16 bs 16)++[next16 (sch k (w16 bs 16))]:=rfl
     unfold next16 at e1
     rw [hml,show k+16-16=k by omega,show k+16-15=k+1 by omega,show k+16-7=k+9 by omega,show k+16-2=k+14 by omega] at e1
     exact Zk
    ·
     refine Zd ?_
     refine Z4g ?_ ?_
     ·
      refine Z29 ?_
      refine Z1l ?_
      refine Z45 ?_
      have e1:sch (k+1) (w16 bs 16)=sch k (w16 bs 16)++[next16 (sch k (w16 bs 16))]:=rfl
      unfold next16 at e1
      rw [hml,show k+16-16=k by omega,show k+16-15=k+1 by omega,show k+16-7=k+9 by omega,show k+16-2=k+14 by omega] at e1
      exact Zk
     refine Z3l ?_
     refine Z1m ?_
     refine Z1d ?_
     refine Z29 ?_
     refine Z1k ?_
     refine Z3b ?_
     have e1:sch (k+1) (w16 bs 16)=sch k (w16 bs 16)++[next16 (sch k (w16 bs 16))]:=rfl
     unfold next16 at e1
     rw [hml,show k+16-16=k by omega,show k+16-15=k+1 by omega,show k+16-7=k+9 by omega,show k+16-2=k+14 by omega] at e1
     exact Zk
    refine Z3l ?_
    refine Z1m ?_
    refine et_2 (i1:=4) (i2:=17) (by kernel_rfl) ?_ ?_
    ·
     refine Z29 ?_
     refine Z7i ?_
     refine Z1k ?_
     refine Z3b ?_
     have e1:sch (k+1) (w16 bs 16)=sch k (w16 bs 16)++[next16 (sch k (w16 bs 16))]:=rfl
     unfold next16 at e1
     rw [hml,show k+16-16=k by omega,show k+16-15=k+1 by omega,show k+16-7=k+9 by omega,show k+16-2=k+14 by omega] at e1
     exact Zk
    refine Zd ?_
    refine Z1d ?_
    refine Z29 ?_
    refine Z1k ?_
    refine Z3b ?_
    have e1:sch (k+1) (w16 bs 16)=sch k (w16 bs 16)++[next16 (sch k (w16 bs 16))]:=rfl
    unfold next16 at e1
    rw [hml,show k+16-16=k by omega,show k+16-15=k+1 by omega,show k+16-7=k+9 by omega,show k+16-2=k+14 by omega] at e1
    exact Zk
   refine Zd ?_
   refine et_2 (i1:=4) (i2:=8) (by kernel_rfl) ?_ ?_
   ·
    refine Zd ?_
    refine Zw ?_
    refine Z3d ?_
    refine Z3z ?_
    refine Z2z ?_
    have e1:sch (k+1) (w16 bs 16)=sch k (w16 bs 16)++[next16 (sch k (w16 bs 16))]:=rfl
    unfold next16 at e1
    rw [hml,show k+16-16=k by omega,show k+16-15=k+1 by omega,show k+16-7=k+9 by omega,show k+16-2=k+14 by omega] at e1
    exact Zk
   refine Z3d ?_
   refine Z5o ?_ ?_
   ·
    refine Z29 ?_
    refine Z2z ?_
    have e1:sch (k+1) (w16 bs 16)=sch k (w16 bs 16)++[next16 (sch k (w16 bs 16))]:=rfl
    unfold next16 at e1
    rw [hml,show k+16-16=k by omega,show k+16-15=k+1 by omega,show k+16-7=k+9 by omega,show k+16-2=k+14 by omega] at e1
    exact Zk
   refine Z4f ?_
   refine Z4g ?_ ?_
   ·
    refine Z29 ?_
    refine Z1l ?_
    refine Z45 ?_
    have e1:sch (k+1) (w16 bs 16)=sch k (w16 bs 16)++[next16 (sch k (w16 bs 16))]:=rfl
    unfold next16 at e1
    rw [hml,show k+16-16=k by omega,show k+16-15=k+1 by omega,show k+16-7=k+9 by omega,show k+16-2=k+14 by omega] at e1
    exact Zk
   refine Z3l ?_
   refine Z1m ?_
   refine Z1d ?_
   refine Z29 ?_
   refine Z1k ?_
   refine Z3b ?_
   have e1:sch (k+1) (w16 bs 16)=sch k (w16 bs 16)++[next16 (sch k (w16 bs 16))]:=rfl
   unfold next16 at e1
   rw [hml,show k+16-16=k by omega,show k+16-15=k+1 by omega,show k+16-7=k+9 by omega,show k+16-2=k+14 by omega] at e1
   exact Zk
  refine Zd ?_
  refine et_2 (i1:=4) (i2:=6) (by kernel_rfl) ?_ ?_
  ·
   refine Zd ?_
   refine Zs ?_
   refine Z6w ?_
   refine Zw ?_
   refine Z3d ?_
   refine Z3z ?_
   refine Z2z ?_
   have e1:sch (k+1) (w16 bs 16)=sch k (w16 bs 16)++[next16 (sch k (w16 bs 16))]:=rfl
   unfold next16 at e1
   rw [hml,show k+16-16=k by omega,show k+16-15=k+1 by omega,show k+16-7=k+9 by omega,show k+16-2=k+14 by omega] at e1
   exact Zk
  refine Z6w ?_
  refine et_2 (i1:=4) (i2:=8) (by kernel_rfl) ?_ ?_
  ·
   refine Zd ?_
   refine Zw ?_
   refine Z3d ?_
   refine Z3z ?_
   refine Z2z ?_
   have e1:sch (k+1) (w16 bs 16)=sch k (w16 bs 16)++[next16 (sch k (w16 bs 16))]:=rfl
   unfold next16 at e1
   rw [hml,show k+16-16=k by omega,show k+16-15=k+1 by omega,show k+16-7=k+9 by omega,show k+16-2=k+14 by omega] at e1
   exact Zk
  refine Z3d ?_
  refine Z5o ?_ ?_
  ·
   refine Z29 ?_
   refine Z2z ?_
   have e1:sch (k+1) (w16 bs 16)=sch k (w16 bs 16)++[next16 (sch k (w16 bs 16))]:=rfl
   unfold next16 at e1
   rw [hml,show k+16-16=k by omega,show k+16-15=k+1 by omega,show k+16-7=k+9 by omega,show k+16-2=k+14 by omega] at e1
   exact Zk
  refine Z4f ?_
  refine Z4g ?_ ?_
  ·
   refine Z29 ?_
   refine Z1l ?_
   refine Z45 ?_
   have e1:sch (k+1) (w16 bs 16)=sch k (w16 bs 16)++[next16 (sch k (w16 bs 16))]:=rfl
   unfold next16 at e1
   rw [hml,show k+16-16=k by omega,show k+16-15=k+1 by omega,show k+16-7=k+9 by omega,show k+16-2=k+14 by omega] at e1
   exact Zk
  refine Z3l ?_
  refine Z1m ?_
  refine Z1d ?_
  refine Z29 ?_
  refine Z1k ?_
  refine Z3b ?_
  have e1:sch (k+1) (w16 bs 16)=sch k (w16 bs 16)++[next16 (sch k (w16 bs 16))]:=rfl
  unfold next16 at e1
  rw [hml,show k+16-16=k by omega,show k+16-15=k+1 by omega,show k+16-7=k+9 by omega,show k+16-2=k+14 by omega] at e1
  exact Zk
 intro hb2 hp2
 have hk48:k=48:=by omega
 have e9:fillA (sch k (w16 bs 16))=layM bs:=by rw [fillA_64 (by rw [hml];omega),hk48,layM]
 refine R6 ?_
 refine oq (op_lda (L:=wC _) 0 ag_150 rfl rfl (List.take_of_length_le (by simp [wC_len]<;>omega)) (by simp [wC_len]<;>omega)) ?_
 refine Z2 ?_
 refine oN (os_storew (wC _) ag_150 rfl rfl (by rw [wC_len];exact hfl) (wC_one _) (by simp [wC_len,w8C_len]) (Free.zero _)) ?_;rintro _ _ ⟨rfl,rfl⟩
 refine R3 ?_
 exact px_rv1 rfl (rv_cella 0 ag_150 rfl rfl (List.take_of_length_le (by first | (simp [wC_len];done) | (simp [wC_len];omega))) (by first | (simp [wC_len];done) | (simp [wC_len];omega))) (fun _ s=>((s.del 1).del 0)) ⟨by rw [e9],rfl⟩
end Go.SL
