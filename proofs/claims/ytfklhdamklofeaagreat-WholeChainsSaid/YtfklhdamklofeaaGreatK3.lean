import Derived.DeepKeys4
import Derived.Laws.StructEq
import Derived.Maps.Keyed
import Derived.Lib.AppendStr
import Derived.SizedLaws
import Derived.Laws.Externs
import Derived.Test.YtfklhdamklofeaaGreatK2
set_option linter.unusedVariables false
set_option linter.unusedSimpArgs false
set_option linter.unusedSectionVars false
namespace Go.SL
def Root:={ l:List UInt8 // l.length=32 }
instance:DecidableEq Root:=inferInstanceAs (DecidableEq { l:List UInt8 // l.length=32 })
def Root.zero:Root:=⟨List.replicate 32 0,rfl⟩
def rootC (r:Root):List Value:=r.1.map fun b=>.int .u8 (b.toNat:Int)
theorem rootC_len (r:Root):(rootC r).length=32:=by simp [rootC,r.2]
theorem rootC_take (r:Root) (X:List Value):(rootC r++X).take 32=rootC r:=by
  rw [List.take_append_of_le_length (by rw [rootC_len];exact Nat.le_refl _),List.take_of_length_le (by rw [rootC_len];exact Nat.le_refl _)]
theorem rootC_take' (r:Root):(rootC r).take 32=rootC r:=List.take_of_length_le (by rw [rootC_len];exact Nat.le_refl _)
theorem rootC_one (r:Root):∀ v∈rootC r,v.oneCell'=true:=fun v hv=>by
  obtain ⟨b,_,rfl⟩:=List.mem_map.1 hv
  rfl
theorem rootC_get (r:Root) (i:Nat) (h:i<32):((rootC r).drop i).take 1=[.int .u8 ((r.1.getD i 0).toNat:Int)]:=by
  have h':i<r.1.length:=by rw [r.2];exact h
  unfold rootC
  rw [←List.map_drop,List.drop_eq_getElem_cons h']
  rw [List.map_cons,List.take_succ_cons,List.take_zero]
  simp only [List.getD_eq_getElem?_getD,List.getElem?_eq_getElem h',Option.getD_some]
theorem rootC_inj {a b:Root} (h:rootC a=rootC b):a=b:=by
  apply Subtype.ext
  have:=congrArg (List.map fun v:Value=>match v with | .int _ n=>UInt8.ofNat n.toNat | _=>0) h
  simpa [rootC,List.map_map,Function.comp_def] using this
def u8B (P:Program) (e:Nat):Bool:=match P.underlying e with | some (.int .u8)=>true | _=>false
def rootB (P:Program) (T:Nat):Bool:=match P.underlying T with
  | some (.array 32 e)=>u8B P e && (P.cellsOf e == 1) && (P.cellsOf T == 32) && (P.info? e).isSome && !(P.eqGuardType P.depth T)
  | _=>false
theorem mapM_all {α β:Type} (f:α→Option β) (g:α→β):∀ l:List α,(∀ i∈l,f i=some (g i))→l.mapM f=some (l.map g)
  | [],_=>by simp
  | i::l,h=>by
    rw [List.mapM_cons,h i (by simp),mapM_all f g l (fun j hj=>h j (by simp [hj]))]
    rfl
theorem rootB_spec {P:Program} {T:Nat} (h:rootB P T=true):∃ e q,P.underlying T=some (.array 32 e)∧P.underlying e=some (.int .u8)∧P.cellsOf e=1∧P.cellsOf T=32∧P.info? e=some q∧P.eqGuardType P.depth T=false:=by
  unfold rootB at h
  split at h
  · rename_i e hu
    simp only [Bool.and_eq_true,beq_iff_eq,Bool.not_eq_true',Option.isSome_iff_exists] at h
    obtain ⟨⟨⟨⟨h1,h2⟩,h3⟩,q,h4⟩,h5⟩:=h
    unfold u8B at h1
    split at h1
    · exact ⟨e,q,hu,by assumption,h2,h3,h4,h5⟩
    · cases h1
  · cases h
theorem run_equalIn_root {P:Program} {T:Nat} (dd:Nat) (hT:rootB P T=true) (a b:Root) (w:World):(Op.equalIn (dd+2) T (.agg (rootC a).toArray) (.agg (rootC b).toArray)).run P w=.ok (decide (a=b)) w:=by
  obtain ⟨e,q,hu,he,hc,hcT,hi,hg⟩:=rootB_spec hT
  have hpk:P.plainKey e=true:=by unfold Program.plainKey;rw [he]
  have key:∀ r:Root,(List.range 32).mapM (fun i=>P.keyLits 1 e (((rootC r).toArray.toList.drop (i*P.cellsOf e)).take (P.cellsOf e)))=some ((List.range 32).map fun i=>[Lit.int .u8 ((r.1.getD i 0).toNat:Int)]):=fun r=>by
    refine mapM_all _ _ _ fun i hi'=>?_
    have hlt:i<32:=by simpa using hi'
    rw [hc,Nat.mul_one]
    simp only [List.toList_toArray]
    rw [rootC_get r i hlt]
    generalize r.1.getD i 0=u
    have hb:=u.toNat_lt
    unfold Program.keyLits
    rw [he]
    simp only [Lit.wf,IntKind.min,IntKind.max,IntKind.signed,IntKind.bits]
    rw [if_pos]
    refine ⟨trivial,?_⟩
    simp
    omega
  obtain ⟨r,hr,hiff⟩:=run_eqItems_plain (P:=P) w dd hpk (rootC a).toArray (rootC b).toArray (List.range 32) _ _ (key a) (key b)
  have h1:(Op.equalIn (dd+2) T (.agg (rootC a).toArray) (.agg (rootC b).toArray)).run P w=(Op.eqItems (dd+1) e (P.cellsOf e) (rootC a).toArray (rootC b).toArray (List.range 32)).run P w:=run_equalIn_array w (dd+1) _ _ hu hi
  rw [h1,hr]
  congr 1
  rw [Bool.eq_iff_iff,hiff,decide_eq_true_iff]
  constructor
  · intro h
    apply Subtype.ext
    apply List.ext_getElem
    · rw [a.2,b.2]
    · intro i h2 h3
      have hi2:i<32:=by rw [←a.2];exact h2
      have h4:=congrArg (fun l:List Lit=>l[i]?) h
      have hfl:∀ g:Nat→Lit,((List.range 32).map fun i=>[g i]).flatten=(List.range 32).map g:=fun g=>by
        generalize List.range 32=l
        induction l with
        | nil=>rfl
        | cons u l ih=>rw [List.map_cons,List.flatten_cons,ih];rfl
      simp only [hfl] at h4
      simp [hi2,List.getD_eq_getElem?_getD,h2,h3] at h4
      exact UInt8.toNat_inj.1 (by omega)
  · intro h
    subst h
    rfl
theorem run_equal_root {P:Program} {T:Nat} (hT:rootB P T=true) (a b:Root) (w:World):(Op.equal T (.agg (rootC a).toArray) (.agg (rootC b).toArray)).run P w=.ok (decide (a=b)) w:=run_equalIn_root 9998 hT a b w
def FEq (P:Program) (xs ys:Array Value) (fs:List Field) (c:Bool):Prop:=∀ (d:Nat) (w:World),(Op.eqFields (d+3) xs ys fs).run P w=.ok c w
def structB (P:Program) (T:Nat):Bool:=match P.underlying T with | some (.struct _)=>!P.stoodInHeld T && !(P.eqGuardType P.depth T) | _=>false
section
variable {P:Program} {w0 w:World} {n:Nat} {f:Fr} {l l':List HProp} {d:Option Tmp} {ty:TypeId} {pos:String} {aft:Array Edge} {g:Option (Nat×Bool)} {x y z:Operand} {T T':TypeId}
theorem op_eqroot (a b:Root) (hT:rootB P T=true) (hx:ev f x=.agg (rootC a).toArray) (hy:ev f y=.agg (rootC b).toArray):OP P w0 n ⟨d,.binOp .eql T x y T',ty,pos,aft,g⟩ f l (.bool (decide (a=b))):=fun M A w r s=>by
  obtain ⟨e,q,hu,he,hc,hcT,hi,hg⟩:=rootB_spec hT
  have h1:(eqGuard .eql T x y (.agg (rootC a).toArray) (.agg (rootC b).toArray)).run P w=.ok () w:=by
    simp [eqGuard,hg]
  simp [execOp,r.eval,hx,hy,h1,binOp,run_equal_root hT a b]
theorem op_neroot (a b:Root) (hT:rootB P T=true) (hx:ev f x=.agg (rootC a).toArray) (hy:ev f y=.agg (rootC b).toArray):OP P w0 n ⟨d,.binOp .neq T x y T',ty,pos,aft,g⟩ f l (.bool (decide (a≠b))):=fun M A w r s=>by
  obtain ⟨e,q,hu,he,hc,hcT,hi,hg⟩:=rootB_spec hT
  have h1:(eqGuard .neq T x y (.agg (rootC a).toArray) (.agg (rootC b).toArray)).run P w=.ok () w:=by
    simp [eqGuard,hg]
  simp [execOp,r.eval,hx,hy,h1,binOp,run_equal_root hT a b]
end
def Root.set (r:Root) (i:Nat) (u:UInt8):Root:=⟨r.1.set i u,by rw [List.length_set];exact r.2⟩
theorem rootC_set (r:Root) (i:Nat) (u:UInt8):(rootC r).toArray.setIfInBounds i (.int .u8 (u.toNat:Int))=(rootC (r.set i u)).toArray:=by
  simp [rootC,Root.set,List.map_set]
/-- &a[i] of an array that a pointer leads to: its element's size is one -/
def arr1B (P:Program) (T:Nat):Option Nat:=match P.underlying T with
  | some (.array n e)=>(P.info? e).bind fun i=>if i.size=1 then some n else none
  | _=>none
section
variable {P:Program} {w0 w:World} {n:Nat} {f:Fr} {l l':List HProp} {d:Option Tmp} {ty:TypeId} {pos:String} {aft:Array Edge} {g:Option (Nat×Bool)} {x y z:Operand} {T T':TypeId} {v:Value}
theorem op_aidx {m b o:Nat} {k:IntKind} {i:Int} (j:Nat) (hT:arr1B P T=some m) (hx:ev f x=.pointer (some ⟨b,o,none⟩)) (hy:ev f y=.int k i) (hj:i=(j:Int)) (h:j<m):OP P w0 n ⟨d,.indexAddr T x y,ty,pos,aft,g⟩ f l (.pointer (some ⟨b,o+j,none⟩)):=fun M A w r s=>by
  subst hj
  unfold arr1B at hT
  split at hT
  · rename_i n' e hu
    obtain ⟨q,hq,h1⟩:=Option.bind_eq_some_iff.1 hT
    split at h1
    · rename_i hs
      cases h1
      have h3:(j:Int)<(m:Int):=by omega
      have hadd:(⟨b,o,none⟩:Addr).add j=⟨b,o+j,none⟩:=by unfold Addr.add;split<;>simp_all
      simp [execOp,r.eval,hx,hy,Instr.indexAt,Instr.sureAddr,asIntOf,run_underlying hu,h,h3,sizeOf,typeInfo,hq,hs,hadd]
    · cases h1
  · cases hT
def RVal (P:Program) (w0:World) (n:Nat) (f:Fr) (l:List HProp) (r:ResultVar) (v:Value):Prop :=
  ∀ a w,Rep n a f→Sat w0 w l→(match r with | .tmp t=>(pure (a.tmps.getD t undef):Sem Value) | .cell p t=>do loadVar t (←asAddr (a.tmps.getD p undef))).run P w=.ok v w
theorem rv_tmp {t:Tmp} (h:f t=v):RVal P w0 n f l (.tmp t) v:=fun a w r s=>by
  simp only [Sem.run_pure]
  rw [r.get,h]
theorem rv_cella (i:Nat) {p b k:Nat} {cs:Array Value} {t:TypeId} {fr:Nat×Nat} {L:List Value} (hT:aggB P T=some k) (hl:l[i]? = some (Blk b (.cells cs t fr))) (hp:f p=.pointer (some ⟨b,0,none⟩)) (hL:cs.toList.take k=L) (hk:k≤cs.size):RVal P w0 n f l (.cell p T) (.agg L.toArray):=fun a w r s=>by
  have hc:=loadCells_row (P:=P) w b 0 k cs t fr (heap_of (M:=[]) i s hl) L (by simpa using hL) (by omega)
  have hp':a.tmps.getD p undef=.pointer (some ⟨b,0,none⟩):=by rw [r.get,hp]
  simp only [hp']
  simp [asAddr,loadVar,Sem.run_bind,(isAgg_agg hT w).1,(isAgg_agg hT w).2,hc]
theorem px_rv1 {fn:Func} {R:Value→List HProp→Prop} {r1:ResultVar} {v1:Value} (hr:fn.results=#[r1]) (h1:RVal P w0 n f l r1 v1) (hl:∀ w,Sat w0 w l→Sat w0 w l') (h:R v1 l'):PX w0 n .ret (bodyPost P fn (Ret w0 R)) f l:=fun a w r s=>by
  refine ⟨r.defers,v1,?_,v1,l',rfl,h,hl w s⟩
  have:=h1 a w r s
  cases r1<;>simp_all [results]
theorem px_rv2 {fn:Func} {R:Value→List HProp→Prop} {r1 r2:ResultVar} {v1 v2:Value} (hr:fn.results=#[r1,r2]) (h1:RVal P w0 n f l r1 v1) (h2:RVal P w0 n f l r2 v2) (hl:∀ w,Sat w0 w l→Sat w0 w l') (h:R (.tuple #[v1,v2]) l'):PX w0 n .ret (bodyPost P fn (Ret w0 R)) f l:=fun a w r s=>by
  refine ⟨r.defers,.tuple #[v1,v2],?_,_,l',rfl,h,hl w s⟩
  have e1:=h1 a w r s
  have e2:=h2 a w r s
  have assoc:∀ {α β γ:Type} (X:Result α) (F:α→World→Result β) (G:β→World→Result γ),(X.andThen F).andThen G=X.andThen fun u w'=>(F u w').andThen G:=fun X F G=>by cases X<;>rfl
  cases r1<;>cases r2
  · simp_all [results]
  · simp [results,hr] at e1 e2 ⊢
    rw [e1,←assoc,e2]
    rfl
  · simp [results,hr] at e1 e2 ⊢
    rw [e2,←assoc,e1]
    rfl
  · simp [results,hr] at e1 e2 ⊢
    rw [←assoc,e1]
    simp only [Result.andThen_ok]
    rw [←assoc,e2]
    rfl
end
open Go.Maps (Keyed)
section
variable {K V:Type}
/-- the entries' stamps rise,below the clock -/
def Born (es:Array MapEntry) (clock:Nat):Prop:=(es.toList.map (·.born)).Pairwise (·<·)∧∀ e∈es.toList,e.born<clock
def MapO (EK:K→Value) (EV:V→Value) (b:Nat) (kvs:List (K×V)):HProp:=fun h =>
  ∃ es clock,es.toList.map (fun e:MapEntry=>(e.key,e.val))=kvs.map (fun p=>(EK p.1,EV p.2))∧Born es clock∧Blk b (.map es clock) h
def look [DecidableEq K] (kvs:List (K×V)) (k:K):Option V:=(kvs.find? fun p=>decide (p.1=k)).map (·.2)
def ins [DecidableEq K] (kvs:List (K×V)) (k:K) (v:V):List (K×V) :=
  if (look kvs k).isSome=true then kvs.map fun p=>if p.1=k then (k,v) else p else kvs++[(k,v)]
variable {EK:K→Value} {EV:V→Value} {w0 w:World} {l:List HProp} {b:Nat} {kvs:List (K×V)}
theorem Sat.mapOpen (s:Sat w0 w (MapO EK EV b kvs::l)):∃ es clock,es.toList.map (fun e:MapEntry=>(e.key,e.val))=kvs.map (fun p=>(EK p.1,EV p.2))∧Born es clock∧Sat w0 w (Blk b (.map es clock)::l):=by
  obtain ⟨h,a,x,y,d,rfl,p,q⟩:=s.own
  obtain ⟨es,clock,h1,hB,h2⟩:=p
  exact ⟨es,clock,h1,hB,s.os,s.tape,s.output,s.size,_,a,x,y,d,rfl,h2,q⟩
theorem Sat.mapMk {es:Array MapEntry} {clock:Nat} (s:Sat w0 w (Blk b (.map es clock)::l)) (hB:Born es clock) (h:es.toList.map (fun e:MapEntry=>(e.key,e.val))=kvs.map (fun p=>(EK p.1,EV p.2))):Sat w0 w (MapO EK EV b kvs::l) :=
  s.head fun _ hb=>⟨es,clock,h,hB,hb⟩
theorem Sat.mapNew (EK:K→Value) (EV:V→Value) (s:Sat w0 w (Blk b (.map #[] 0)::l)):Sat w0 w (MapO EK EV b []::l):=s.mapMk ⟨by simp,by simp⟩ rfl
theorem look_none [DecidableEq K] {k:K} (h:∀ p∈kvs,p.1≠k):look kvs k=none:=by
  unfold look
  rw [List.find?_eq_none.2 fun p hp=>by simpa using h p hp]
  rfl
theorem look_some [DecidableEq K] {k:K} {v:V} (hd:(kvs.map (·.1)).Nodup) (h:(k,v)∈kvs):look kvs k=some v:=by
  induction kvs with
  | nil=>cases h
  | cons p r ih =>
    rw [List.map_cons,List.nodup_cons] at hd
    unfold look
    rcases List.mem_cons.1 h with h | h
    · subst h
      simp
    · by_cases hp:p.1=k
      · exact absurd (List.mem_map.2 ⟨(k,v),h,hp.symm⟩) hd.1
      · rw [List.find?_cons_of_neg (by simpa using hp)]
        exact ih hd.2 h
end
section
variable {K V:Type} [DecidableEq K] {EK:K→Value} {EV:V→Value} {P:Program} {w0 w:World} {n:Nat} {f:Fr} {l l':List HProp} {d:Option Tmp} {ty:TypeId} {pos:String} {aft:Array Edge} {g:Option (Nat×Bool)} {x y z:Operand} {T kt et b:Nat} {kvs:List (K×V)}
/-- the keys of a map,and one more,are keys,and told apart -/
structure KeyOK (P:Program) (kt:Nat) (EK:K→Value) (kvs:List (K×V)) (k:K):Prop where
  keyed:Keyed P kt
  isKey:∀ a,a=k∨a∈kvs.map (·.1)→∃ L,keyOf P kt (EK a)=some L
  inj:∀ a a',EK a=EK a'→a=a'
  nodup:(kvs.map (·.1)).Nodup
theorem KeyOK.found {k:K} (H:KeyOK P kt EK kvs k) (w:World) {es:Array MapEntry} (he:es.toList.map (fun e:MapEntry=>(e.key,e.val))=kvs.map (fun p=>(EK p.1,EV p.2))) :
    ((Instr.findKey kt (EK k) es.toList).run P w=.ok none w∧look kvs k=none∧∀ p∈kvs,p.1≠k)∨∃ j v e,(Instr.findKey kt (EK k) es.toList).run P w=.ok (some (j,EV v)) w∧kvs[j]? = some (k,v)∧look kvs k=some v∧es.toList[j]? = some e∧e.key=EK k:=by
  obtain ⟨L,hL⟩:=H.isKey k (.inl rfl)
  have hes:∀ e∈es.toList,∃ l,keyOf P kt e.key=some l:=fun e hm=>by
    have h1:(e.key,e.val)∈es.toList.map (fun e:MapEntry=>(e.key,e.val)):=List.mem_map.2 ⟨e,hm,rfl⟩
    rw [he] at h1
    obtain ⟨p,hp,hq⟩:=List.mem_map.1 h1
    simp only [Prod.mk.injEq] at hq
    rw [←hq.1]
    exact H.isKey _ (.inr (List.mem_map.2 ⟨p,hp,rfl⟩))
  rcases H.keyed.find w hL es.toList hes with ⟨h1,h2⟩ | ⟨j,e,h1,h2,h3⟩
  · have hne:∀ p∈kvs,p.1≠k:=fun p hp hk=>by
      have h4:(EK p.1,EV p.2)∈kvs.map (fun p=>(EK p.1,EV p.2)):=List.mem_map.2 ⟨p,hp,rfl⟩
      rw [←he] at h4
      obtain ⟨e,hm,hq⟩:=List.mem_map.1 h4
      simp only [Prod.mk.injEq] at hq
      exact h2 e hm (by rw [hq.1,hk])
    exact .inl ⟨h1,look_none hne,hne⟩
  · right
    have h4:=congrArg (fun l:List (Value×Value)=>l[j]?) he
    simp only [List.getElem?_map,h2,Option.map_some] at h4
    cases hk:kvs[j]? with
    | none=>rw [hk] at h4;cases h4
    | some p =>
      rw [hk] at h4
      simp only [Option.map_some,Option.some.injEq,Prod.mk.injEq] at h4
      have hpk:p.1=k:=H.inj _ _ (by rw [←h4.1,h3])
      refine ⟨j,p.2,e,by rw [h1,h4.2],by rw [←hpk];exact hk,look_some H.nodup ?_,h2,h3⟩
      rw [←hpk]
      exact List.mem_of_getElem? hk
theorem run_getObj' {w:World} {r:Nat} {es:Array MapEntry} {clock:Nat} (hb:w.heap[r]? = some (.map es clock)):(getObj r).run P w=.ok (.map es clock) w:=by simp [getObj,Sem.run,hb]
theorem op_lookup2 (i:Nat) (k:K) {zv:Value} (hT:P.underlying T=some (.map kt et)) (hz:zeroB P et=some zv) (H:KeyOK P kt EK kvs k) (hl:l[i]? = some (MapO EK EV b kvs)) (hx:ev f x=.map (some b)) (hy:ev f y=EK k) :
    OP P w0 n ⟨d,.lookup T x y true,ty,pos,aft,g⟩ f l (match look kvs k with | some v=>.tuple #[EV v,.bool true] | none=>.tuple #[zv,.bool false]):=fun M A w r s=>by
  obtain ⟨m,s1⟩:=s.front i hl
  obtain ⟨es,clock,he,hB,s2⟩:=s1.mapOpen
  have hb:=s2.blk
  obtain ⟨L,hL⟩:=H.isKey k (.inl rfl)
  have hc:=H.keyed.check w es.isEmpty hL
  obtain ⟨q,hq,hq2⟩:=Option.bind_eq_some_iff.1 hz
  rcases H.found w he with ⟨h1,h2,_⟩ | ⟨j,v,e,h1,_,h2,_⟩
  · simp [execOp,r.eval,hx,hy,Instr.lookup,run_underlying hT,run_getObj' hb,hc,h1,h2,zeroValue,typeInfo,hq,hq2]
  · simp [execOp,r.eval,hx,hy,Instr.lookup,run_underlying hT,run_getObj' hb,hc,h1,h2]
theorem Sat.setMap {es:Array MapEntry} {clock:Nat} (o:Obj) (s:Sat w0 w (Blk b (.map es clock)::l)):Sat w0 { w with heap:=w.heap.setIfInBounds b o } (Blk b o::l):=by
  have hb:=s.blk
  have hlt:b<w.heap.size:=(Array.getElem?_eq_some_iff.1 hb).1
  exact s.upd rfl rfl rfl (by simp [hlt]) (fun k _ hk=>by simp [Array.getElem?_setIfInBounds,Ne.symm hk])
theorem run_setObj' {w:World} {r:Nat} {es:Array MapEntry} {clock:Nat} (o:Obj) (hb:w.heap[r]? = some (.map es clock)):(setObj r o).run P w=.ok () { w with heap:=w.heap.setIfInBounds r o }:=by
  simp [setObj,Sem.run,hb]
theorem os_mapUpdate (k:K) (v:V) (hT:P.underlying T=some (.map kt et)) (H:KeyOK P kt EK kvs k) (hx:ev f x=.map (some b)) (hy:ev f y=EK k) (hz:ev f z=EV v) :
    OS P w0 n ⟨d,.mapUpdate T x y z,ty,pos,aft,g⟩ f (MapO EK EV b kvs::l) (fun u l'=>u=undef∧l'=MapO EK EV b (ins kvs k v)::l):=fun a w r s=>by
  obtain ⟨es,clock,he,hB,s2⟩:=s.mapOpen
  have hb:=s2.blk
  obtain ⟨L,hL⟩:=H.isKey k (.inl rfl)
  have hc:=H.keyed.check w false hL
  have hset:=fun o=>run_setObj' (P:=P) o hb
  rcases H.found w he with ⟨h1,h2,h3⟩ | ⟨j,v',e,h1,h4,h2,h5,h6⟩
  · simp [execOp,r.eval,hx,hy,hz,Instr.mapUpdate,run_underlying hT,run_getObj' hb,hc,h1,hset,gives]
    refine (s2.setMap _).mapMk ⟨?_,?_⟩ ?_
    · rw [Array.toList_push,List.map_append,List.pairwise_append]
      refine ⟨hB.1,by simp,fun x hx y hy=>?_⟩
      obtain ⟨e,he1,rfl⟩:=List.mem_map.1 hx
      simp at hy
      subst hy
      exact hB.2 e he1
    · intro e he1
      rw [Array.toList_push] at he1
      rcases List.mem_append.1 he1 with h | h
      · exact Nat.lt_succ_of_lt (hB.2 e h)
      · simp at h
        subst h
        exact Nat.lt_succ_self _
    have hins:ins kvs k v=kvs++[(k,v)]:=by unfold ins;rw [h2];rfl
    rw [hins]
    simp [he]
  · have hj:es[j]? = some e:=by simpa using h5
    have hst:=H.keyed.stays w hL
    simp [execOp,r.eval,hx,hy,hz,Instr.mapUpdate,run_underlying hT,run_getObj' hb,hc,h1,hj,h6,hst,hset,gives]
    have hbm:((es.modify j fun e=>{ key:=EK k,val:=EV v,born:=e.born }).toList.map (·.born))=es.toList.map (·.born):=by
      apply List.ext_getElem?
      intro i
      simp only [List.getElem?_map,Array.getElem?_toList,Array.getElem?_modify]
      split
      · cases es[i]?<;>rfl
      · rfl
    refine (s2.setMap _).mapMk ⟨by rw [hbm];exact hB.1,fun e he1=>?_⟩ ?_
    · have h7:e.born∈((es.modify j fun e=>{ key:=EK k,val:=EV v,born:=e.born }).toList.map (·.born)):=List.mem_map.2 ⟨e,he1,rfl⟩
      rw [hbm] at h7
      obtain ⟨e',h8,h9⟩:=List.mem_map.1 h7
      rw [←h9]
      exact hB.2 e' h8
    have hins:ins kvs k v=kvs.map fun p=>if p.1=k then (k,v) else p:=by unfold ins;rw [h2];rfl
    rw [hins]
    apply List.ext_getElem?
    intro i
    have hi:=congrArg (fun l:List (Value×Value)=>l[i]?) he
    simp only [List.getElem?_map,Array.getElem?_toList] at hi
    simp only [List.getElem?_map,Array.getElem?_toList,Array.getElem?_modify]
    by_cases hij:j=i
    · subst hij
      rw [hj,h4]
      simp
    · rw [if_neg hij]
      rw [hi]
      cases hk:kvs[i]? with
      | none=>rfl
      | some p =>
        have hpk:p.1≠k:=fun hp=>by
          have hlt1:=(List.getElem?_eq_some_iff.1 h4).1
          have hlt2:=(List.getElem?_eq_some_iff.1 hk).1
          have e1:(kvs.map (·.1))[j]? = some k:=by rw [List.getElem?_map,h4];rfl
          have e2:(kvs.map (·.1))[i]? = some k:=by rw [List.getElem?_map,hk,←hp];rfl
          exact hij ((List.getElem?_inj (by simpa using hlt1) H.nodup).1 (by rw [e1,e2]))
        simp [hpk]
theorem op_len_map (i:Nat) (hT:P.underlying T=some (.map kt et)) (hl:l[i]? = some (MapO EK EV b kvs)) (hx:ev f x=.map (some b)):OP P w0 n ⟨d,.call ⟨.builtin .len,#[x],#[T]⟩,ty,pos,aft,g⟩ f l (.int .i64 kvs.length):=fun M A w r s=>by
  obtain ⟨m,s1⟩:=s.front i hl
  obtain ⟨es,clock,he,hB,s2⟩:=s1.mapOpen
  have hb:=s2.blk
  have hlen:es.size=kvs.length:=by have:=congrArg List.length he;simpa using this
  simp [execOp,resolve,invoke,builtin,r.eval,hx,Builtin.len_,run_underlying hT,run_getObj' hb,hlen,goInt]
end
open Go.Maps (Keyed)
section
variable {P:Program} {w0 w:World} {n:Nat} {f:Fr} {l l':List HProp} {d:Option Tmp} {ty:TypeId} {pos:String} {aft:Array Edge} {g:Option (Nat×Bool)} {x y z:Operand} {T kt et b r:Nat} {es:Array MapEntry} {clock:Nat} {seen:Array Nat}
theorem run_choose_lt (w:World) (m:Nat) (hm:0<m):∃ i w',i<m∧(choose (.mapNext m)).run P w=.ok i w'∧(w'=w∨w'=w.drew):=by
  rw [run_choose_drew]
  split
  · exact ⟨0,w,hm,rfl,.inl rfl⟩
  · exact ⟨_,_,Nat.mod_lt _ hm,rfl,.inr rfl⟩
theorem os_range (hT:P.underlying T=some (.map kt et)) (hx:ev f x=.map (some b)):OS P w0 n ⟨d,.range T x,ty,pos,aft,g⟩ f (Blk b (.map es clock)::l) (fun u l'=>∃ r,u=.pointer (some ⟨r,0,none⟩)∧l'=Blk r (.mapIter (some b) clock #[] clock)::Blk b (.map es clock)::l):=fun a w r s=>by
  have hb:=s.blk
  simp [execOp,r.eval,hx,Instr.range,run_underlying hT,run_getObj' hb,gives]
  exact s.alloc _
theorem os_next (hB:Born es clock) (hx:ev f x=.pointer (some ⟨r,0,none⟩)):OS P w0 n ⟨d,.next x false,ty,pos,aft,g⟩ f (Blk b (.map es clock)::Blk r (.mapIter (some b) clock seen clock)::l)
    (fun u l'=>(u=.tuple #[.bool false]∧(∀ e∈es.toList,seen.contains e.born=true)∧l'=Blk b (.map es clock)::Blk r (.mapIter (some b) clock seen clock)::l) ∨
      ∃ e∈es.toList,seen.contains e.born=false∧u=.tuple #[.bool true,e.key,e.val]∧l'=Blk b (.map es clock)::Blk r (.mapIter (some b) clock (seen.push e.born) clock)::l):=fun a w ra s=>by
  have hb:=s.blk
  have hr:=(s.pull 1).blk
  have hr:w.heap[r]? = some (.mapIter (some b) clock seen clock):=hr
  have hgr:(getObj r).run P w=.ok (.mapIter (some b) clock seen clock) w:=by simp [getObj,Sem.run,hr]
  have hall:¬ ((!seen.isEmpty && !es.isEmpty && es.all fun e=>decide (e.born≥clock))=true):=fun h=>by
    simp only [Bool.and_eq_true,Bool.not_eq_true'] at h
    obtain ⟨⟨_,h1⟩,h2⟩:=h
    have hne:0<es.size:=by
      rcases Nat.eq_zero_or_pos es.size with h0 | h0
      · exact absurd h1 (by simp [Array.eq_empty_of_size_eq_zero h0])
      · exact h0
    have h3:=(Array.all_eq_true.1 h2) 0 hne
    have h4:=hB.2 es[0] (by simp)
    simp at h3
    omega
  let old:=(es.filter fun e=>!seen.contains e.born).filter fun e=>decide (e.born<clock)
  let new:=(es.filter fun e=>!seen.contains e.born).filter fun e=>decide (e.born≥clock)
  let C:Array (Option MapEntry):=(if old.isEmpty then #[none] else #[])++(old++new).map some
  have hC:0<C.size:=by
    by_cases h:old.isEmpty=true
    · simp [C,h];omega
    · have:0<old.size:=by
        rcases Nat.eq_zero_or_pos old.size with h0 | h0
        · exact absurd (by simp [Array.eq_empty_of_size_eq_zero h0]) h
        · exact h0
      simp only [C,Array.size_append,Array.size_map]
      omega
  obtain ⟨i,w1,hi,hch,hw1⟩:=run_choose_lt (P:=P) w C.size hC
  have s1:Sat w0 w1 (Blk b (.map es clock)::Blk r (.mapIter (some b) clock seen clock)::l):=by
    rcases hw1 with rfl | rfl
    · exact s
    · exact s.drew
  have hr1:w1.heap[r]? = some (.mapIter (some b) clock seen clock):=(s1.pull 1).blk
  have hset:∀ o,(setObj r o).run P w1=.ok () { w1 with heap:=w1.heap.setIfInBounds r o }:=fun o=>by simp [setObj,Sem.run,hr1]
  have hrun:(Instr.next (.pointer (some ⟨r,0,none⟩)) false ty).run P w=match C[i]? with
      | some (some e)=>.ok (.tuple #[.bool true,e.key,e.val]) { w1 with heap:=w1.heap.setIfInBounds r (.mapIter (some b) clock (seen.push e.born) clock) }
      | some none=>.ok (.tuple #[.bool false]) w1
      | none=>.halt (.stuck "Next: no such candidate") w1:=by
    unfold Instr.next
    simp only [Sem.run_bind,hgr,Result.andThen_ok,run_getObj' hb]
    rw [if_neg hall,Sem.run_bind]
    change ((choose (Question.mapNext C.size)).run P w).andThen _=_
    rw [hch,Result.andThen_ok]
    change Sem.run P (match C[i]? with
      | some (some e)=>(do setObj r (.mapIter (some b) clock (seen.push e.born) clock);pure (Value.tuple #[.bool true,e.key,e.val]))
      | some none=>pure (Value.tuple #[.bool false])
      | none=>stuck "Next: no such candidate") w1=_
    generalize C[i]? = c
    rcases c with _ | _ | e
    · rfl
    · rfl
    · simp only [Sem.run_bind,hset,Result.andThen_ok,Sem.run_pure]
  have hci:C[i]? = some C[i]:=Array.getElem?_eq_getElem hi
  rw [hci] at hrun
  have hmem:C[i]∈C:=Array.getElem_mem hi
  cases hc:C[i] with
  | none =>
    rw [hc] at hrun hmem
    have hempty:old.isEmpty=true:=by
      by_cases h:old.isEmpty=true
      · exact h
      · simp [C,h] at hmem
    simp [execOp,ra.eval,hx,hrun,gives]
    refine ⟨_,⟨fun e he=>?_,rfl⟩,s1⟩
    by_cases hs:seen.contains e.born=true
    · simpa using hs
    · exfalso
      have hin:e∈old:=by
        simp only [old,Array.mem_filter]
        exact ⟨⟨he,by simpa using hs⟩,by simpa using hB.2 e (by simpa using he)⟩
      rw [Array.isEmpty_iff.1 hempty] at hin
      simp at hin
  | some e =>
    rw [hc] at hrun hmem
    have he:e∈es∧seen.contains e.born=false:=by
      simp only [C,Array.mem_append,Array.mem_map] at hmem
      rcases hmem with h | ⟨e',h,h2⟩
      · split at h<;>simp at h
      · cases h2
        rcases h with h | h
        · simp only [old,Array.mem_filter] at h
          exact ⟨h.1.1,by simpa using h.1.2⟩
        · simp only [new,Array.mem_filter] at h
          exact ⟨h.1.1,by simpa using h.1.2⟩
    simp [execOp,ra.eval,hx,hrun,gives]
    have hlt:r<w1.heap.size:=(Array.getElem?_eq_some_iff.1 hr1).1
    have s2:Sat w0 w1 (Blk r (.mapIter (some b) clock seen clock)::Blk b (.map es clock)::l):=s1.pull 1
    have s3:Sat w0 { w1 with heap:=w1.heap.setIfInBounds r (.mapIter (some b) clock (seen.push e.born) clock) } (Blk r (.mapIter (some b) clock (seen.push e.born) clock)::Blk b (.map es clock)::l) :=
      s2.upd rfl rfl rfl (by simp [hlt]) (fun k _ hk=>by simp [Array.getElem?_setIfInBounds,Ne.symm hk])
    refine ⟨_,⟨e,he.1,by simpa using he.2,⟨rfl,rfl⟩,rfl⟩,s3.pull 1⟩
theorem born_inj (hB:Born es clock) {e e':MapEntry} (h:e∈es.toList) (h':e'∈es.toList) (hb:e.born=e'.born):e=e':=by
  obtain ⟨i,hi,rfl⟩:=List.mem_iff_getElem.1 h
  obtain ⟨j,hj,rfl⟩:=List.mem_iff_getElem.1 h'
  have hp:=List.pairwise_iff_getElem.1 hB.1
  rcases Nat.lt_trichotomy i j with h1 | h1 | h1
  · have:=hp i j (by simpa using hi) (by simpa using hj) h1
    simp only [List.getElem_map] at this
    omega
  · subst h1;rfl
  · have:=hp j i (by simpa using hj) (by simpa using hi) h1
    simp only [List.getElem_map] at this
    omega
theorem op_entry (i j:Nat) (e:MapEntry) (hB:Born es clock) (hl:l[i]? = some (Blk b (.map es clock))) (hr:l[j]? = some (Blk r (.mapIter (some b) clock seen clock))) (hx:ev f x=.pointer (some ⟨r,0,none⟩)) (hs:seen.back? = some e.born) (he:e∈es.toList) :
    OP P w0 n ⟨d,.entry x,ty,pos,aft,g⟩ f l (.tuple #[e.key,e.val]):=fun M A w ra s=>by
  have h1:w.heap[b]? = some (.map es clock):=s.at (M.length+i) (by rw [List.getElem?_append_right (by omega)];simpa using hl)
  have h2:w.heap[r]? = some (.mapIter (some b) clock seen clock):=s.at (M.length+j) (by rw [List.getElem?_append_right (by omega)];simpa using hr)
  have hgr:(getObj r).run P w=.ok (.mapIter (some b) clock seen clock) w:=by simp [getObj,Sem.run,h2]
  have hf:es.find? (fun e'=>e'.born == e.born)=some e:=by
    cases hf:es.find? (fun e'=>e'.born == e.born) with
    | none =>
      have:=Array.find?_eq_none.1 hf e (by simpa using he)
      simp at this
    | some e' =>
      have h3:=Array.find?_some hf
      have h4:=Array.mem_of_find?_eq_some hf
      have h5:e'=e:=born_inj (e:=e') (e':=e) hB (by simpa using h4) he (by simpa using h3)
      rw [h5]
  simp [execOp,ra.eval,hx,Instr.entry,hgr,run_getObj' h1,hs,hf]
section
variable {K V:Type} [DecidableEq K] {EK:K→Value} {EV:V→Value} {kvs:List (K×V)}
theorem erase_filter:∀ (kvs:List (K×V)) (j:Nat) (k:K) (v:V),(kvs.map (·.1)).Nodup→kvs[j]? = some (k,v)→kvs.eraseIdx j=kvs.filter fun p=>decide (p.1≠k)
  | [],j,k,v,_,h=>by simp at h
  | p::r,0,k,v,hd,h=>by
    simp at h
    subst h
    rw [List.map_cons,List.nodup_cons] at hd
    rw [List.eraseIdx_cons_zero,List.filter_cons_of_neg (by simp)]
    refine (List.filter_eq_self.2 fun q hq=>?_).symm
    simp only [decide_eq_true_eq,ne_eq]
    intro he
    exact hd.1 (List.mem_map.2 ⟨q,hq,he⟩)
  | p::r,j+1,k,v,hd,h=>by
    rw [List.map_cons,List.nodup_cons] at hd
    have h':r[j]? = some (k,v):=by simpa using h
    rw [List.eraseIdx_cons_succ,erase_filter r j k v hd.2 h',List.filter_cons_of_pos]
    simp only [decide_eq_true_eq,ne_eq]
    intro he
    exact hd.1 (List.mem_map.2 ⟨(k,v),List.mem_of_getElem? h',he.symm⟩)
theorem map_erase {α β:Type} (F:α→β):∀ (L:List α) (j:Nat),(L.eraseIdx j).map F=(L.map F).eraseIdx j
  | [],j=>by simp
  | a::L,0=>by simp
  | a::L,j+1=>by simp [map_erase F L j]
theorem os_delete (k:K) {ats:Array TypeId} (has:ats=#[T,kt]) (hT:P.underlying T=some (.map kt et)) (H:KeyOK P kt EK kvs k) (hB:Born es clock) (he:es.toList.map (fun e:MapEntry=>(e.key,e.val))=kvs.map (fun p=>(EK p.1,EV p.2))) (hx:ev f x=.map (some b)) (hy:ev f y=EK k) :
    OS P w0 n ⟨d,.call ⟨.builtin .delete,#[x,y],ats⟩,ty,pos,aft,g⟩ f (Blk b (.map es clock)::l) (fun u l'=>u=.tuple #[]∧∃ es',l'=Blk b (.map es' clock)::l∧es'.toList.map (fun e:MapEntry=>(e.key,e.val))=(kvs.filter fun p=>decide (p.1≠k)).map (fun p=>(EK p.1,EV p.2))∧Born es' clock∧(∀ e∈es'.toList,e∈es.toList∧e.key≠EK k)∧es'.toList.Sublist es.toList):=fun a w ra s=>by
  subst has
  have hb:=s.blk
  obtain ⟨L,hL⟩:=H.isKey k (.inl rfl)
  have hc:=H.keyed.check w es.isEmpty hL
  have hset:=fun o=>run_setObj' (P:=P) o hb
  have hkey:∀ e∈es.toList,∃ p∈kvs,e.key=EK p.1:=fun e hm=>by
    have h1:(e.key,e.val)∈es.toList.map (fun e:MapEntry=>(e.key,e.val)):=List.mem_map.2 ⟨e,hm,rfl⟩
    rw [he] at h1
    obtain ⟨p,hp,hq⟩:=List.mem_map.1 h1
    simp only [Prod.mk.injEq] at hq
    exact ⟨p,hp,hq.1.symm⟩
  rcases H.found w he with ⟨h1,h2,h3⟩ | ⟨j,v,e0,h1,h4,h2,h5,h6⟩
  · simp [execOp,resolve,invoke,builtin,ra.eval,hx,hy,Builtin.delete_,run_underlying hT,run_getObj' hb,hc,h1,hset,gives]
    refine ⟨_,⟨es,rfl,?_,hB,fun e hm=>⟨by simpa using hm,fun hk=>?_⟩,List.Sublist.refl _⟩,s.setMap _⟩
    · have h4:(kvs.filter fun p=>decide (p.1≠k))=kvs:=List.filter_eq_self.2 fun p hp=>by simpa using h3 p hp
      have h5:(kvs.filter fun p=>!decide (p.1=k))=kvs:=List.filter_eq_self.2 fun p hp=>by simpa using h3 p hp
      rw [he];simp only [h5]
    · obtain ⟨p,hp,hq⟩:=hkey e (by simpa using hm)
      exact h3 p hp (H.inj _ _ (by rw [←hq,hk]))
  · simp [execOp,resolve,invoke,builtin,ra.eval,hx,hy,Builtin.delete_,run_underlying hT,run_getObj' hb,hc,h1,hset,gives]
    have hjlt:j<es.toList.length:=(List.getElem?_eq_some_iff.1 h5).1
    have hes':(es.eraseIdxIfInBounds j).toList=es.toList.eraseIdx j:=by simp
    have hmem:∀ e∈es.toList.eraseIdx j,e∈es.toList∧e.key≠EK k:=fun e hm=>by
      refine ⟨(List.eraseIdx_sublist _ _).subset hm,fun hk=>?_⟩
      have h7:(e.key,e.val)∈(es.toList.eraseIdx j).map (fun e:MapEntry=>(e.key,e.val)):=List.mem_map.2 ⟨e,hm,rfl⟩
      rw [map_erase,he,←map_erase,erase_filter kvs j k v H.nodup h4] at h7
      obtain ⟨p,hp,hq⟩:=List.mem_map.1 h7
      simp only [Prod.mk.injEq] at hq
      exact (by simpa using (List.mem_filter.1 hp).2:p.1≠k) (H.inj _ _ (by rw [hq.1,hk]))
    refine ⟨_,⟨es.eraseIdxIfInBounds j,rfl,?_,⟨?_,?_⟩,?_,hes' ▸ List.eraseIdx_sublist _ _⟩,s.setMap _⟩
    · have h7:=congrArg (fun l=>l.eraseIdx j) he
      simp only [←map_erase,erase_filter kvs j k v H.nodup h4] at h7
      simpa using h7
    · rw [hes',map_erase]
      exact hB.1.sublist (List.eraseIdx_sublist _ _)
    · intro e hm
      rw [hes'] at hm
      exact hB.2 e (hmem e hm).1
    · intro e hm
      have hm':e∈es.toList.eraseIdx j:=hes' ▸ (Array.mem_toList_iff.2 hm)
      simpa using hmem e hm'
end
end
structure Vote where
  who:Int
  slot:Int
  target:Root
  deriving DecidableEq
def Vote.zero:Vote:=⟨0,0,Root.zero⟩
def voteC (v:Vote):List Value:=[.int .i64 v.who]++([.int .i64 v.slot]++(rootC v.target))
theorem voteC_len (v:Vote):(voteC v).length=34:=by simp [voteC,rootC_len]
theorem voteC_take' (v:Vote):(voteC v).take 34=voteC v:=List.take_of_length_le (by rw [voteC_len];exact Nat.le_refl _)
theorem voteC_ta (v:Vote):((voteC v).drop 0).take 34=voteC v:=voteC_take' v
theorem voteC_one (v:Vote):∀ u∈voteC v,u.oneCell'=true:=fun u hu=>by
  simp only [voteC,List.mem_append,List.mem_singleton] at hu
  rcases hu with h | h | h
  · subst h;rfl
  · subst h;rfl
  · exact rootC_one _ u h
def encVote:Enc Vote:=⟨voteC,34,voteC_len,voteC_one,by omega⟩
theorem voteC_d0 (v:Vote):(voteC v).drop 0=[.int .i64 v.who]++([.int .i64 v.slot]++(rootC v.target)):=rfl
theorem voteC_l0 (v:Vote):(voteC v)[0]? = some (.int .i64 v.who):=by
  have h:=voteC_d0 v
  have h2:((voteC v).drop 0)[0]? = some (.int .i64 v.who):=by rw [h];rfl
  rwa [List.getElem?_drop] at h2
theorem voteC_a0 (v:Vote):(voteC v).toArray[0]? = some (.int .i64 v.who):=by
  rw [List.getElem?_toArray];exact voteC_l0 v
theorem voteC_d1 (v:Vote):(voteC v).drop 1=[.int .i64 v.slot]++(rootC v.target):=rfl
theorem voteC_l1 (v:Vote):(voteC v)[1]? = some (.int .i64 v.slot):=by
  have h:=voteC_d1 v
  have h2:((voteC v).drop 1)[0]? = some (.int .i64 v.slot):=by rw [h];rfl
  rwa [List.getElem?_drop] at h2
theorem voteC_a1 (v:Vote):(voteC v).toArray[1]? = some (.int .i64 v.slot):=by
  rw [List.getElem?_toArray];exact voteC_l1 v
theorem voteC_d2 (v:Vote):(voteC v).drop 2=rootC v.target:=rfl
theorem voteC_f2 (v:Vote):((voteC v).drop 2).take 32=rootC v.target:=by
  rw [voteC_d2]
  exact rootC_take' _
theorem voteC_af2 (v:Vote):((voteC v).toArray.toList.drop 2).take 32=rootC v.target:=voteC_f2 v
structure Node where
  root:Root
  slot:Int
  parent:Int
  deriving DecidableEq
def Node.zero:Node:=⟨Root.zero,0,0⟩
def nodeC (v:Node):List Value:=rootC v.root++([.int .i64 v.slot]++([.int .i64 v.parent]))
theorem nodeC_len (v:Node):(nodeC v).length=34:=by simp [nodeC,rootC_len]
theorem nodeC_take' (v:Node):(nodeC v).take 34=nodeC v:=List.take_of_length_le (by rw [nodeC_len];exact Nat.le_refl _)
theorem nodeC_ta (v:Node):((nodeC v).drop 0).take 34=nodeC v:=nodeC_take' v
theorem nodeC_one (v:Node):∀ u∈nodeC v,u.oneCell'=true:=fun u hu=>by
  simp only [nodeC,List.mem_append,List.mem_singleton] at hu
  rcases hu with h | h | h
  · exact rootC_one _ u h
  · subst h;rfl
  · subst h;rfl
def encNode:Enc Node:=⟨nodeC,34,nodeC_len,nodeC_one,by omega⟩
theorem nodeC_d0 (v:Node):(nodeC v).drop 0=rootC v.root++([.int .i64 v.slot]++([.int .i64 v.parent])):=rfl
theorem nodeC_f0 (v:Node):((nodeC v).drop 0).take 32=rootC v.root:=by
  rw [nodeC_d0]
  exact rootC_take _ _
theorem nodeC_af0 (v:Node):((nodeC v).toArray.toList.drop 0).take 32=rootC v.root:=nodeC_f0 v
theorem nodeC_d32 (v:Node):(nodeC v).drop 32=[.int .i64 v.slot]++([.int .i64 v.parent]):=by
  simp only [nodeC,List.drop_append,List.length_append,rootC_len,List.length_singleton,List.length_cons,List.length_nil]
  have e:∀ r:Root,(rootC r).drop 32=[]:=fun r=>List.drop_eq_nil_of_le (by rw [rootC_len];exact Nat.le_refl _)
  simp [e,List.drop_eq_nil_of_le,rootC_len]
theorem nodeC_l32 (v:Node):(nodeC v)[32]? = some (.int .i64 v.slot):=by
  have h:=nodeC_d32 v
  have h2:((nodeC v).drop 32)[0]? = some (.int .i64 v.slot):=by rw [h];rfl
  rwa [List.getElem?_drop] at h2
theorem nodeC_a32 (v:Node):(nodeC v).toArray[32]? = some (.int .i64 v.slot):=by
  rw [List.getElem?_toArray];exact nodeC_l32 v
theorem nodeC_d33 (v:Node):(nodeC v).drop 33=[.int .i64 v.parent]:=by
  simp only [nodeC,List.drop_append,List.length_append,rootC_len,List.length_singleton,List.length_cons,List.length_nil]
  have e:∀ r:Root,(rootC r).drop 32=[]:=fun r=>List.drop_eq_nil_of_le (by rw [rootC_len];exact Nat.le_refl _)
  simp [e,List.drop_eq_nil_of_le,rootC_len]
theorem nodeC_l33 (v:Node):(nodeC v)[33]? = some (.int .i64 v.parent):=by
  have h:=nodeC_d33 v
  have h2:((nodeC v).drop 33)[0]? = some (.int .i64 v.parent):=by rw [h];rfl
  rwa [List.getElem?_drop] at h2
theorem nodeC_a33 (v:Node):(nodeC v).toArray[33]? = some (.int .i64 v.parent):=by
  rw [List.getElem?_toArray];exact nodeC_l33 v
theorem nodeC_p0 (v:Node) (x:Root):(nodeC v).take 0++(rootC x)++(nodeC v).drop 32=nodeC { v with root:=x }:=by
  unfold nodeC
  simp [List.take_append,List.drop_append,rootC_len,List.take_of_length_le,List.drop_eq_nil_of_le]
theorem nodeC_b0 (v:Node) (x:Root) (r:List (Nat×Value)):fill2 [(0,32),(32,1),(33,1)] (nodeC v) ((0,.agg (rootC x).toArray)::r)=fill2 [(0,32),(32,1),(33,1)] (nodeC { v with root:=x }) r:=congrArg (fun q=>fill2 [(0,32),(32,1),(33,1)] q r) (nodeC_p0 v x)
theorem nodeC_p32 (v:Node) (x:Int):(nodeC v).take 32++([.int .i64 x])++(nodeC v).drop 33=nodeC { v with slot:=x }:=by
  unfold nodeC
  simp [List.take_append,List.drop_append,rootC_len,List.take_of_length_le,List.drop_eq_nil_of_le]
theorem nodeC_b1 (v:Node) (x:Int) (r:List (Nat×Value)):fill2 [(0,32),(32,1),(33,1)] (nodeC v) ((1,.int .i64 x)::r)=fill2 [(0,32),(32,1),(33,1)] (nodeC { v with slot:=x }) r:=congrArg (fun q=>fill2 [(0,32),(32,1),(33,1)] q r) (nodeC_p32 v x)
theorem nodeC_p33 (v:Node) (x:Int):(nodeC v).take 33++([.int .i64 x])++(nodeC v).drop 34=nodeC { v with parent:=x }:=by
  unfold nodeC
  simp [List.take_append,List.drop_append,rootC_len,List.take_of_length_le,List.drop_eq_nil_of_le]
theorem nodeC_b2 (v:Node) (x:Int) (r:List (Nat×Value)):fill2 [(0,32),(32,1),(33,1)] (nodeC v) ((2,.int .i64 x)::r)=fill2 [(0,32),(32,1),(33,1)] (nodeC { v with parent:=x }) r:=congrArg (fun q=>fill2 [(0,32),(32,1),(33,1)] q r) (nodeC_p33 v x)
structure Delta where
  root:Root
  n:Int
  deriving DecidableEq
def Delta.zero:Delta:=⟨Root.zero,0⟩
def deltaC (v:Delta):List Value:=rootC v.root++([.int .i64 v.n])
theorem deltaC_len (v:Delta):(deltaC v).length=33:=by simp [deltaC,rootC_len]
theorem deltaC_take' (v:Delta):(deltaC v).take 33=deltaC v:=List.take_of_length_le (by rw [deltaC_len];exact Nat.le_refl _)
theorem deltaC_ta (v:Delta):((deltaC v).drop 0).take 33=deltaC v:=deltaC_take' v
theorem deltaC_one (v:Delta):∀ u∈deltaC v,u.oneCell'=true:=fun u hu=>by
  simp only [deltaC,List.mem_append,List.mem_singleton] at hu
  rcases hu with h | h
  · exact rootC_one _ u h
  · subst h;rfl
def encDelta:Enc Delta:=⟨deltaC,33,deltaC_len,deltaC_one,by omega⟩
theorem deltaC_d0 (v:Delta):(deltaC v).drop 0=rootC v.root++([.int .i64 v.n]):=rfl
theorem deltaC_f0 (v:Delta):((deltaC v).drop 0).take 32=rootC v.root:=by
  rw [deltaC_d0]
  exact rootC_take _ _
theorem deltaC_af0 (v:Delta):((deltaC v).toArray.toList.drop 0).take 32=rootC v.root:=deltaC_f0 v
theorem deltaC_d32 (v:Delta):(deltaC v).drop 32=[.int .i64 v.n]:=by
  simp only [deltaC,List.drop_append,List.length_append,rootC_len,List.length_singleton,List.length_cons,List.length_nil]
  have e:∀ r:Root,(rootC r).drop 32=[]:=fun r=>List.drop_eq_nil_of_le (by rw [rootC_len];exact Nat.le_refl _)
  simp [e,List.drop_eq_nil_of_le,rootC_len]
theorem deltaC_l32 (v:Delta):(deltaC v)[32]? = some (.int .i64 v.n):=by
  have h:=deltaC_d32 v
  have h2:((deltaC v).drop 32)[0]? = some (.int .i64 v.n):=by rw [h];rfl
  rwa [List.getElem?_drop] at h2
theorem deltaC_a32 (v:Delta):(deltaC v).toArray[32]? = some (.int .i64 v.n):=by
  rw [List.getElem?_toArray];exact deltaC_l32 v
theorem deltaC_p0 (v:Delta) (x:Root):(deltaC v).take 0++(rootC x)++(deltaC v).drop 32=deltaC { v with root:=x }:=by
  unfold deltaC
  simp [List.take_append,List.drop_append,rootC_len,List.take_of_length_le,List.drop_eq_nil_of_le]
theorem deltaC_b0 (v:Delta) (x:Root) (r:List (Nat×Value)):fill2 [(0,32),(32,1)] (deltaC v) ((0,.agg (rootC x).toArray)::r)=fill2 [(0,32),(32,1)] (deltaC { v with root:=x }) r:=congrArg (fun q=>fill2 [(0,32),(32,1)] q r) (deltaC_p0 v x)
theorem deltaC_p32 (v:Delta) (x:Int):(deltaC v).take 32++([.int .i64 x])++(deltaC v).drop 33=deltaC { v with n:=x }:=by
  unfold deltaC
  simp [List.take_append,List.drop_append,rootC_len,List.take_of_length_le,List.drop_eq_nil_of_le]
theorem deltaC_b1 (v:Delta) (x:Int) (r:List (Nat×Value)):fill2 [(0,32),(32,1)] (deltaC v) ((1,.int .i64 x)::r)=fill2 [(0,32),(32,1)] (deltaC { v with n:=x }) r:=congrArg (fun q=>fill2 [(0,32),(32,1)] q r) (deltaC_p32 v x)
structure TCall where
  fg:Bool
  who:Int
  slot:Int
  nr:Int
  deriving DecidableEq
def TCall.zero:TCall:=⟨false,0,0,0⟩
def tCallC (v:TCall):List Value:=[.bool v.fg]++([.int .i64 v.who]++([.int .i64 v.slot]++([.int .i64 v.nr])))
theorem tCallC_len (v:TCall):(tCallC v).length=4:=by simp [tCallC,rootC_len]
theorem tCallC_take' (v:TCall):(tCallC v).take 4=tCallC v:=List.take_of_length_le (by rw [tCallC_len];exact Nat.le_refl _)
theorem tCallC_ta (v:TCall):((tCallC v).drop 0).take 4=tCallC v:=tCallC_take' v
theorem tCallC_one (v:TCall):∀ u∈tCallC v,u.oneCell'=true:=fun u hu=>by
  simp only [tCallC,List.mem_append,List.mem_singleton] at hu
  rcases hu with h | h | h | h
  · subst h;rfl
  · subst h;rfl
  · subst h;rfl
  · subst h;rfl
def encTCall:Enc TCall:=⟨tCallC,4,tCallC_len,tCallC_one,by omega⟩
theorem tCallC_d0 (v:TCall):(tCallC v).drop 0=[.bool v.fg]++([.int .i64 v.who]++([.int .i64 v.slot]++([.int .i64 v.nr]))):=rfl
theorem tCallC_l0 (v:TCall):(tCallC v)[0]? = some (.bool v.fg):=by
  have h:=tCallC_d0 v
  have h2:((tCallC v).drop 0)[0]? = some (.bool v.fg):=by rw [h];rfl
  rwa [List.getElem?_drop] at h2
theorem tCallC_a0 (v:TCall):(tCallC v).toArray[0]? = some (.bool v.fg):=by
  rw [List.getElem?_toArray];exact tCallC_l0 v
theorem tCallC_d1 (v:TCall):(tCallC v).drop 1=[.int .i64 v.who]++([.int .i64 v.slot]++([.int .i64 v.nr])):=rfl
theorem tCallC_l1 (v:TCall):(tCallC v)[1]? = some (.int .i64 v.who):=by
  have h:=tCallC_d1 v
  have h2:((tCallC v).drop 1)[0]? = some (.int .i64 v.who):=by rw [h];rfl
  rwa [List.getElem?_drop] at h2
theorem tCallC_a1 (v:TCall):(tCallC v).toArray[1]? = some (.int .i64 v.who):=by
  rw [List.getElem?_toArray];exact tCallC_l1 v
theorem tCallC_d2 (v:TCall):(tCallC v).drop 2=[.int .i64 v.slot]++([.int .i64 v.nr]):=rfl
theorem tCallC_l2 (v:TCall):(tCallC v)[2]? = some (.int .i64 v.slot):=by
  have h:=tCallC_d2 v
  have h2:((tCallC v).drop 2)[0]? = some (.int .i64 v.slot):=by rw [h];rfl
  rwa [List.getElem?_drop] at h2
theorem tCallC_a2 (v:TCall):(tCallC v).toArray[2]? = some (.int .i64 v.slot):=by
  rw [List.getElem?_toArray];exact tCallC_l2 v
theorem tCallC_d3 (v:TCall):(tCallC v).drop 3=[.int .i64 v.nr]:=rfl
theorem tCallC_l3 (v:TCall):(tCallC v)[3]? = some (.int .i64 v.nr):=by
  have h:=tCallC_d3 v
  have h2:((tCallC v).drop 3)[0]? = some (.int .i64 v.nr):=by rw [h];rfl
  rwa [List.getElem?_drop] at h2
theorem tCallC_a3 (v:TCall):(tCallC v).toArray[3]? = some (.int .i64 v.nr):=by
  rw [List.getElem?_toArray];exact tCallC_l3 v
structure TAdd where
  root:Int
  parent:Int
  slot:Int
  deriving DecidableEq
def TAdd.zero:TAdd:=⟨0,0,0⟩
def tAddC (v:TAdd):List Value:=[.int .i64 v.root]++([.int .i64 v.parent]++([.int .i64 v.slot]))
theorem tAddC_len (v:TAdd):(tAddC v).length=3:=by simp [tAddC,rootC_len]
theorem tAddC_take' (v:TAdd):(tAddC v).take 3=tAddC v:=List.take_of_length_le (by rw [tAddC_len];exact Nat.le_refl _)
theorem tAddC_ta (v:TAdd):((tAddC v).drop 0).take 3=tAddC v:=tAddC_take' v
theorem tAddC_one (v:TAdd):∀ u∈tAddC v,u.oneCell'=true:=fun u hu=>by
  simp only [tAddC,List.mem_append,List.mem_singleton] at hu
  rcases hu with h | h | h
  · subst h;rfl
  · subst h;rfl
  · subst h;rfl
def encTAdd:Enc TAdd:=⟨tAddC,3,tAddC_len,tAddC_one,by omega⟩
theorem tAddC_d0 (v:TAdd):(tAddC v).drop 0=[.int .i64 v.root]++([.int .i64 v.parent]++([.int .i64 v.slot])):=rfl
theorem tAddC_l0 (v:TAdd):(tAddC v)[0]? = some (.int .i64 v.root):=by
  have h:=tAddC_d0 v
  have h2:((tAddC v).drop 0)[0]? = some (.int .i64 v.root):=by rw [h];rfl
  rwa [List.getElem?_drop] at h2
theorem tAddC_a0 (v:TAdd):(tAddC v).toArray[0]? = some (.int .i64 v.root):=by
  rw [List.getElem?_toArray];exact tAddC_l0 v
theorem tAddC_d1 (v:TAdd):(tAddC v).drop 1=[.int .i64 v.parent]++([.int .i64 v.slot]):=rfl
theorem tAddC_l1 (v:TAdd):(tAddC v)[1]? = some (.int .i64 v.parent):=by
  have h:=tAddC_d1 v
  have h2:((tAddC v).drop 1)[0]? = some (.int .i64 v.parent):=by rw [h];rfl
  rwa [List.getElem?_drop] at h2
theorem tAddC_a1 (v:TAdd):(tAddC v).toArray[1]? = some (.int .i64 v.parent):=by
  rw [List.getElem?_toArray];exact tAddC_l1 v
theorem tAddC_d2 (v:TAdd):(tAddC v).drop 2=[.int .i64 v.slot]:=rfl
theorem tAddC_l2 (v:TAdd):(tAddC v)[2]? = some (.int .i64 v.slot):=by
  have h:=tAddC_d2 v
  have h2:((tAddC v).drop 2)[0]? = some (.int .i64 v.slot):=by rw [h];rfl
  rwa [List.getElem?_drop] at h2
theorem tAddC_a2 (v:TAdd):(tAddC v).toArray[2]? = some (.int .i64 v.slot):=by
  rw [List.getElem?_toArray];exact tAddC_l2 v
structure First where
  who:Int
  epoch:Int
  target:Root
  deriving DecidableEq
def First.zero:First:=⟨0,0,Root.zero⟩
def firstC (v:First):List Value:=[.int .i64 v.who]++([.int .i64 v.epoch]++(rootC v.target))
theorem firstC_len (v:First):(firstC v).length=34:=by simp [firstC,rootC_len]
theorem firstC_take' (v:First):(firstC v).take 34=firstC v:=List.take_of_length_le (by rw [firstC_len];exact Nat.le_refl _)
theorem firstC_ta (v:First):((firstC v).drop 0).take 34=firstC v:=firstC_take' v
theorem firstC_one (v:First):∀ u∈firstC v,u.oneCell'=true:=fun u hu=>by
  simp only [firstC,List.mem_append,List.mem_singleton] at hu
  rcases hu with h | h | h
  · subst h;rfl
  · subst h;rfl
  · exact rootC_one _ u h
def encFirst:Enc First:=⟨firstC,34,firstC_len,firstC_one,by omega⟩
theorem firstC_d0 (v:First):(firstC v).drop 0=[.int .i64 v.who]++([.int .i64 v.epoch]++(rootC v.target)):=rfl
theorem firstC_l0 (v:First):(firstC v)[0]? = some (.int .i64 v.who):=by
  have h:=firstC_d0 v
  have h2:((firstC v).drop 0)[0]? = some (.int .i64 v.who):=by rw [h];rfl
  rwa [List.getElem?_drop] at h2
theorem firstC_a0 (v:First):(firstC v).toArray[0]? = some (.int .i64 v.who):=by
  rw [List.getElem?_toArray];exact firstC_l0 v
theorem firstC_d1 (v:First):(firstC v).drop 1=[.int .i64 v.epoch]++(rootC v.target):=rfl
theorem firstC_l1 (v:First):(firstC v)[1]? = some (.int .i64 v.epoch):=by
  have h:=firstC_d1 v
  have h2:((firstC v).drop 1)[0]? = some (.int .i64 v.epoch):=by rw [h];rfl
  rwa [List.getElem?_drop] at h2
theorem firstC_a1 (v:First):(firstC v).toArray[1]? = some (.int .i64 v.epoch):=by
  rw [List.getElem?_toArray];exact firstC_l1 v
theorem firstC_d2 (v:First):(firstC v).drop 2=rootC v.target:=rfl
theorem firstC_f2 (v:First):((firstC v).drop 2).take 32=rootC v.target:=by
  rw [firstC_d2]
  exact rootC_take' _
theorem firstC_af2 (v:First):((firstC v).toArray.toList.drop 2).take 32=rootC v.target:=firstC_f2 v
def byteI (n:Int):UInt8:=UInt8.ofNat (n % 256).toNat
theorem wrap_u8_int (n:Int):IntKind.u8.wrap n=((byteI n).toNat:Int):=by
  have h:IntKind.u8.wrap n=n % 256:=by simp [IntKind.wrap,IntKind.signed,IntKind.bits]
  rw [h]
  unfold byteI
  simp only [UInt8.toNat_ofNat']
  omega
section
variable {P:Program} {w0 w:World} {n:Nat} {f:Fr} {l l':List HProp} {d:Option Tmp} {ty:TypeId} {pos:String} {aft:Array Edge} {g:Option (Nat×Bool)} {x y z:Operand} {T T':TypeId} {v:Value}
theorem op_conv8i {k:IntKind} {A:Int} (hu:P.underlying T'=some (.int .u8)) (hT:(P.underlying T).isSome=true) (hx:ev f x=.int k A):OP P w0 n ⟨d,.convert T T' x,ty,pos,aft,g⟩ f l (.int .u8 ((byteI A).toNat:Int)):=by
  have:=op_convi (P:=P) (w0:=w0) (n:=n) (l:=l) (d:=d) (ty:=ty) (pos:=pos) (aft:=aft) (g:=g) hu hT hx
  rw [wrap_u8_int] at this
  exact this
/-- a name is stored -/
theorem os_storera {T b:Nat} {q:Root} {t:TypeId} {fr:Nat×Nat} (r:Root) (hT:aggB P T=some 32) (hx:ev f x=.pointer (some ⟨b,0,none⟩)) (hy:ev f y=.agg (rootC r).toArray) (hf:Free 32 fr) :
    OS P w0 n ⟨d,.store T x y,ty,pos,aft,g⟩ f (Blk b (.cells (rootC q).toArray t fr)::l) (fun u l'=>u=undef∧l'=Blk b (.cells (rootC r).toArray t fr)::l) :=
  os_storea hT hx hy (rootC_len r) (rootC_one r) (Nat.ble_eq_true_of_le (by simp [rootC_len])) (by simpa [rootC_len] using hf) (by
    have:(rootC q).drop 32=[]:=List.drop_eq_nil_of_le (by rw [rootC_len];exact Nat.le_refl _)
    simp [this])
/-- a whole block is written over -/
theorem os_storew {T b k:Nat} {cs:Array Value} {t:TypeId} {fr:Nat×Nat} (L:List Value) (hT:aggB P T=some k) (hx:ev f x=.pointer (some ⟨b,0,none⟩)) (hy:ev f y=.agg L.toArray) (hk:L.length=k) (h1:∀ v∈L,v.oneCell'=true) (hcs:cs.size=k) (hf:Free k fr) :
    OS P w0 n ⟨d,.store T x y,ty,pos,aft,g⟩ f (Blk b (.cells cs t fr)::l) (fun u l'=>u=undef∧l'=Blk b (.cells L.toArray t fr)::l) :=
  os_storea hT hx hy hk h1 (Nat.ble_eq_true_of_le (by omega)) (by rw [hcs];exact hf) (by
    have:cs.toList.drop k=[]:=List.drop_eq_nil_of_le (by simp [hcs])
    simp [this])
end
theorem _root_.List.drop_drop_add {α:Type} (i j:Nat) (l:List α):(l.drop i).drop j=l.drop (i+j):=by rw [List.drop_drop]
section
variable {α:Type} {E:Enc α} {P:Program} {w0 w:World} {n:Nat} {f:Fr} {l l':List HProp} {d:Option Tmp} {ty:TypeId} {pos:String} {aft:Array Edge} {g:Option (Nat×Bool)} {x y z:Operand} {T T':TypeId} {u v:Value} {ao:Option Addr} {xs:List α}
theorem flat_set_all (xs:List α) (i:Nat) (x:α) (hi:i<xs.length):(E.flat xs).take (i*E.size)++E.cells x++(E.flat xs).drop (i*E.size+E.size)=E.flat (xs.set i x):=by
  induction xs generalizing i with
  | nil=>simp at hi
  | cons y xs ih =>
    cases i with
    | zero =>
      simp only [Nat.zero_mul,List.take_zero,List.nil_append,Nat.zero_add,List.set_cons_zero,E.flat_cons]
      rw [List.drop_append_of_le_length (by rw [E.len];exact Nat.le_refl _),List.drop_eq_nil_of_le (by rw [E.len];exact Nat.le_refl _),List.nil_append]
    | succ i =>
      have h1:(i+1)*E.size=E.size+i*E.size:=by rw [Nat.add_mul,Nat.one_mul,Nat.add_comm]
      have h2:(i+1)*E.size+E.size=E.size+(i*E.size+E.size):=by omega
      rw [List.set_cons_succ,E.flat_cons,E.flat_cons,←ih i (by simpa using hi),h2,h1]
      have hl:=E.len y
      rw [←hl,List.take_length_add_append,List.drop_length_add_append]
      simp only [List.append_assoc]
theorem os_stew {q e m c k:Nat} {L:List Value} {x':α} (i:Nat) (hT:aggB P T=some k) (hx:ev f x=.pointer (oad ao q)) (hy:ev f y=.agg L.toArray) (hk:E.size=k) (hL:E.cells x'=L) (hi:i<xs.length) (hq:q=i*E.size) (hv:u=.slice ao m c) :
    OS P w0 n ⟨d,.store T x y,ty,pos,aft,g⟩ f (Row e E u xs::l) (fun z l'=>z=undef∧l'=Row e E u (xs.set i x')::l):=fun a w r s=>by
  subst hq hk hL
  rcases s.rowOpen with ⟨rfl,rfl,s'⟩ | ⟨g0,off,cap,cur,fr,rfl,h2,h3,h4,h5,hf,s'⟩
  · simp at hi
  · injection hv with e1 e2 e3
    subst e1
    have hsz:i*E.size+E.size≤cap*E.size:=by rw [←Nat.succ_mul];exact Nat.mul_le_mul_right _ (by omega)
    have hsx:i*E.size+E.size≤xs.length*E.size:=by rw [←Nat.succ_mul];exact Nat.mul_le_mul_right _ (by omega)
    have hxc:xs.length*E.size≤cap*E.size:=Nat.mul_le_mul_right _ h2
    have hcl:cur.toList.length=cur.size:=by simp
    have hlen:=E.len x'
    have hst:=run_storeCells_row P g0 (off+i*E.size) e fr (E.cells x') 0 cur w s'.blk (by rw [hlen];omega) (E.one x') hf
    simp only [Nat.add_zero] at hst
    have hadd:(⟨g0,off,none⟩:Addr).add (i*E.size)=⟨g0,off+i*E.size,none⟩:=by unfold Addr.add;split<;>simp_all
    have hp:ev f x=.pointer (some ⟨g0,off+i*E.size,none⟩):=by rw [hx];unfold oad;rw [Option.map_some,hadd]
    have hcells:(Value.agg (E.cells x').toArray).cells=(E.cells x').toArray:=rfl
    have hnl:(cur.toList.take (off+i*E.size)++E.cells x'++cur.toList.drop (off+i*E.size+(E.cells x').length)).length=cur.size:=by
      simp only [List.length_append,List.length_take,List.length_drop,hlen,hcl];omega
    have hfin:=(s'.setRow (cs':=(cur.toList.take (off+i*E.size)++E.cells x'++cur.toList.drop (off+i*E.size+(E.cells x').length)).toArray)).rowMk (E:=E) (xs:=xs.set i x') (off:=off) (cap:=cap) (by simp only [List.size_toArray,hnl];exact hf) (by simpa using h2) h3 (by simp only [List.size_toArray,hnl];exact h4) (by
      simp only [List.length_set,List.toList_toArray]
      rw [←flat_set_all xs i x' hi,←h5,hlen]
      have hdl:(cur.toList.drop off).length=cur.size-off:=by simp
      rw [List.append_assoc,List.drop_append_of_le_length (by simp only [List.length_take,hcl];omega),List.drop_take,show off+i*E.size+E.size=off+(i*E.size+E.size) by omega,←List.drop_drop_add off]
      generalize cur.toList.drop off=D at hdl ⊢
      rw [show off+i*E.size-off=i*E.size by omega]
      rw [List.take_append,List.take_append,List.take_take,List.drop_take,List.take_take,List.length_take,hdl,hlen,List.append_assoc]
      congr 1
      · congr 1;omega
      · congr 1
        · rw [List.take_of_length_le (by rw [hlen];omega)]
        · congr 1;omega)
    simp [execOp,r.eval,hp,hy,Instr.storeAt,Instr.sureAddr,storeVar,(isAgg_agg hT w).2,hcells,hlen,hst,gives]
    simpa [hlen] using hfin
end
open Go.Maps (Keyed)
theorem rootC_ta (r:Root):((rootC r).drop 0).take 32=rootC r:=rootC_take' r
def encRoot:Enc Root:=⟨rootC,32,rootC_len,rootC_one,by omega⟩
def EK2 (m:Int×Int):Value:=.agg #[.int .i64 m.1,.int .i64 m.2]
def EVR (r:Root):Value:=.agg (rootC r).toArray
def EVI (n:Int):Value:=.int .i64 n
theorem EK2_inj (a b:Int×Int) (h:EK2 a=EK2 b):a=b:=by
  unfold EK2 at h
  injection h with h
  simp at h
  exact Prod.ext h.1 h.2
theorem EVR_inj (a b:Root) (h:EVR a=EVR b):a=b:=by
  unfold EVR at h
  injection h with h
  exact rootC_inj (by simpa using congrArg Array.toList h)
def I64 (n:Int):Prop:=-9223372036854775808≤n∧n≤9223372036854775807
def mark2B (P:Program) (k:Nat):Bool:=match P.underlying k with
  | some (.struct fs)=>(match fs.toList with
      | [f0,f1]=>f0.name != "_" && f1.name != "_" && (f0.offset == 0) && (f1.offset == 1) && (match P.underlying f0.type with | some (.int .i64)=>true | _=>false) && (match P.underlying f1.type with | some (.int .i64)=>true | _=>false) && (P.cellsOf f0.type == 1) && (P.cellsOf f1.type == 1)
      | _=>false) && (P.cellsOf k == 2) && P.keyType k && Nat.ble 1 P.types.size
  | _=>false
theorem lits_i64 {P:Program} {t d:Nat} {n:Int} (hu:P.underlying t=some (.int .i64)) (hn:I64 n):P.keyLits (d+1) t [.int .i64 n]=some [.int .i64 n]:=by
  unfold Program.keyLits
  rw [hu]
  simp only [Lit.wf,IntKind.min,IntKind.max,IntKind.signed,IntKind.bits]
  rw [if_pos]
  refine ⟨trivial,?_⟩
  simp
  unfold I64 at hn
  omega
theorem key2_is {P:Program} {k:Nat} (hB:mark2B P k=true) (m:Int×Int) (h1:I64 m.1) (h2:I64 m.2):∃ L,keyOf P k (EK2 m)=some L:=by
  unfold mark2B at hB
  split at hB
  · rename_i fs hu
    simp only [Bool.and_eq_true,beq_iff_eq] at hB
    obtain ⟨⟨⟨hf,hc⟩,hk⟩,hs⟩:=hB
    split at hf
    · rename_i f0 f1 hfs
      simp only [Bool.and_eq_true,beq_iff_eq,bne_iff_ne,ne_eq] at hf
      obtain ⟨⟨⟨⟨⟨⟨⟨n0,n1⟩,o0⟩,o1⟩,t0⟩,t1⟩,c0⟩,c1⟩:=hf
      have u0:P.underlying f0.type=some (.int .i64):=by split at t0<;>simp_all
      have u1:P.underlying f1.type=some (.int .i64):=by split at t1<;>simp_all
      have hs':=Nat.le_of_ble_eq_true hs
      obtain ⟨d,hd⟩:∃ d,P.types.size=d+1:=⟨P.types.size-1,by omega⟩
      have hl:P.keyLits (P.types.size+1) k [.int .i64 m.1,.int .i64 m.2]=some [.int .i64 m.1,.int .i64 m.2]:=by
        unfold Program.keyLits
        rw [hu]
        have hall:fs.all (fun x=>x.name != "_")=true:=by
          rw [←Array.all_toList,hfs]
          simp [n0,n1]
        simp only [hc,List.length_cons,List.length_nil,hall,and_self,if_true,hfs,hd]
        rw [List.mapM_cons,List.mapM_cons,List.mapM_nil]
        simp only [o0,o1,c0,c1,List.drop_zero,List.take_succ_cons,List.take_zero,List.drop_succ_cons]
        rw [lits_i64 u0 h1,lits_i64 u1 h2]
        rfl
      refine ⟨.string (keyBytes [.int .i64 m.1,.int .i64 m.2]),?_⟩
      · unfold keyOf
        rw [hu]
        have hfm:(EK2 m).formed P k=true:=by
          unfold Value.formed EK2
          simp [hu,hc]
        simp only [hk,hfm,Bool.and_self,if_true]
        have hcells:(EK2 m).cells.toList=[.int .i64 m.1,.int .i64 m.2]:=rfl
        rw [hcells,hl]
        rfl
    · cases hf
  · cases hB
def rootKeyB (P:Program) (k:Nat):Bool:=rootB P k && P.keyType k && Nat.ble 1 P.types.size
theorem keyR_is {P:Program} {k:Nat} (hB:rootKeyB P k=true) (r:Root):∃ L,keyOf P k (EVR r)=some L:=by
  unfold rootKeyB at hB
  simp only [Bool.and_eq_true] at hB
  obtain ⟨⟨hr,hk⟩,hs⟩:=hB
  obtain ⟨e,q,hu,he,hc,hcT,hi,hg⟩:=rootB_spec hr
  have hs':=Nat.le_of_ble_eq_true hs
  obtain ⟨d,hd⟩:∃ d,P.types.size=d+1:=⟨P.types.size-1,by omega⟩
  have hl:P.keyLits (P.types.size+1) k (rootC r)=some ((List.range 32).map fun i=>[Lit.int .u8 ((r.1.getD i 0).toNat:Int)]).flatten:=by
    unfold Program.keyLits
    rw [hu]
    simp only [hcT,rootC_len,if_true,hd]
    rw [mapM_all _ (fun i=>[Lit.int .u8 ((r.1.getD i 0).toNat:Int)]) (List.range 32) fun i hi'=>?_]
    · simp only [Option.map_some]
    · have hlt:i<32:=by simpa using hi'
      rw [hc,Nat.mul_one,rootC_get r i hlt]
      generalize r.1.getD i 0=u
      have hb:=u.toNat_lt
      unfold Program.keyLits
      rw [he]
      simp only [Lit.wf,IntKind.min,IntKind.max,IntKind.signed,IntKind.bits]
      rw [if_pos]
      refine ⟨trivial,?_⟩
      simp
      omega
  refine ⟨.string (keyBytes ((List.range 32).map fun i=>[Lit.int .u8 ((r.1.getD i 0).toNat:Int)]).flatten),?_⟩
  · unfold keyOf
    rw [hu]
    have hfm:(EVR r).formed P k=true:=by
      unfold Value.formed EVR
      simp [hu,hcT,rootC_len]
    simp only [hk,hfm,Bool.and_self,if_true]
    have hcells:(EVR r).cells.toList=rootC r:=rfl
    rw [hcells,hl]
    rfl
theorem keyok2 {P:Program} {k:Nat} {V:Type} {kvs:List ((Int×Int)×V)} (K:Keyed P k) (hB:mark2B P k=true) (m:Int×Int) (h1:I64 m.1) (h2:I64 m.2) (hr:∀ p∈kvs,I64 p.1.1∧I64 p.1.2) (hd:(kvs.map (·.1)).Nodup):KeyOK P k EK2 kvs m :=
  ⟨K,fun a ha=>by
    rcases ha with rfl | ha
    · exact key2_is hB a h1 h2
    · obtain ⟨p,hp,rfl⟩:=List.mem_map.1 ha
      exact key2_is hB p.1 (hr p hp).1 (hr p hp).2,EK2_inj,hd⟩
theorem keyokR {P:Program} {k:Nat} {V:Type} {kvs:List (Root×V)} (K:Keyed P k) (hB:rootKeyB P k=true) (m:Root) (hd:(kvs.map (·.1)).Nodup):KeyOK P k EVR kvs m :=
  ⟨K,fun a ha=>keyR_is hB a,EVR_inj,hd⟩
section
variable {K V:Type} [DecidableEq K] {EK:K→Value} {EV:V→Value} {P:Program} {w0 w:World} {n:Nat} {Q:Exit→Act→World→Prop} {f:Fr} {l l':List HProp} {ops:Array Oper} {rest:List Oper} {c:Code} {e:Exit} {d:Option Tmp} {ty:TypeId} {pos:String} {aft:Array Edge} {g:Option (Nat×Bool)} {x y z:Operand} {T kt et b:Nat} {kvs:List (K×V)}
theorem op_lookup2S {v:V} (i:Nat) (k:K) {zv:Value} (hT:P.underlying T=some (.map kt et)) (hz:zeroB P et=some zv) (H:KeyOK P kt EK kvs k) (hk:look kvs k=some v) (hl:l[i]? = some (MapO EK EV b kvs)) (hx:ev f x=.map (some b)) (hy:ev f y=EK k) :
    OP P w0 n ⟨d,.lookup T x y true,ty,pos,aft,g⟩ f l (.tuple #[EV v,.bool true]):=by
  have h:=op_lookup2 (d:=d) (ty:=ty) (pos:=pos) (aft:=aft) (g:=g) (P:=P) (w0:=w0) (n:=n) i k hT hz H hl hx hy
  rw [hk] at h
  exact h
theorem op_lookup2N (i:Nat) (k:K) {zv:Value} (hT:P.underlying T=some (.map kt et)) (hz:zeroB P et=some zv) (H:KeyOK P kt EK kvs k) (hk:look kvs k=none) (hl:l[i]? = some (MapO EK EV b kvs)) (hx:ev f x=.map (some b)) (hy:ev f y=EK k) :
    OP P w0 n ⟨d,.lookup T x y true,ty,pos,aft,g⟩ f l (.tuple #[zv,.bool false]):=by
  have h:=op_lookup2 (d:=d) (ty:=ty) (pos:=pos) (aft:=aft) (g:=g) (P:=P) (w0:=w0) (n:=n) i k hT hz H hl hx hy
  rw [hk] at h
  exact h
theorem op_lookup1 (i:Nat) (k:K) {zv:Value} (hT:P.underlying T=some (.map kt et)) (hz:zeroB P et=some zv) (H:KeyOK P kt EK kvs k) (hl:l[i]? = some (MapO EK EV b kvs)) (hx:ev f x=.map (some b)) (hy:ev f y=EK k) :
    OP P w0 n ⟨d,.lookup T x y false,ty,pos,aft,g⟩ f l (match look kvs k with | some v=>EV v | none=>zv):=fun M A w r s=>by
  obtain ⟨m,s1⟩:=s.front i hl
  obtain ⟨es,clock,he,hB,s2⟩:=s1.mapOpen
  have hb:=s2.blk
  obtain ⟨L,hL⟩:=H.isKey k (.inl rfl)
  have hc:=H.keyed.check w es.isEmpty hL
  obtain ⟨q,hq,hq2⟩:=Option.bind_eq_some_iff.1 hz
  rcases H.found w he with ⟨h1,h2,_⟩ | ⟨j,v,e,h1,_,h2,_⟩
  · simp [execOp,r.eval,hx,hy,Instr.lookup,run_underlying hT,run_getObj' hb,hc,h1,h2,zeroValue,typeInfo,hq,hq2]
  · simp [execOp,r.eval,hx,hy,Instr.lookup,run_underlying hT,run_getObj' hb,hc,h1,h2]
theorem op_lookup1S {v:V} (i:Nat) (k:K) {zv:Value} (hT:P.underlying T=some (.map kt et)) (hz:zeroB P et=some zv) (H:KeyOK P kt EK kvs k) (hk:look kvs k=some v) (hl:l[i]? = some (MapO EK EV b kvs)) (hx:ev f x=.map (some b)) (hy:ev f y=EK k) :
    OP P w0 n ⟨d,.lookup T x y false,ty,pos,aft,g⟩ f l (EV v):=by
  have h:=op_lookup1 (d:=d) (ty:=ty) (pos:=pos) (aft:=aft) (g:=g) (P:=P) (w0:=w0) (n:=n) i k hT hz H hl hx hy
  rw [hk] at h
  exact h
theorem op_lookup1N (i:Nat) (k:K) {zv:Value} (hT:P.underlying T=some (.map kt et)) (hz:zeroB P et=some zv) (H:KeyOK P kt EK kvs k) (hk:look kvs k=none) (hl:l[i]? = some (MapO EK EV b kvs)) (hx:ev f x=.map (some b)) (hy:ev f y=EK k) :
    OP P w0 n ⟨d,.lookup T x y false,ty,pos,aft,g⟩ f l zv:=by
  have h:=op_lookup1 (d:=d) (ty:=ty) (pos:=pos) (aft:=aft) (g:=g) (P:=P) (w0:=w0) (n:=n) i k hT hz H hl hx hy
  rw [hk] at h
  exact h
theorem cd_mapopen (h:∀ es clock,es.toList.map (fun e:MapEntry=>(e.key,e.val))=kvs.map (fun p=>(EK p.1,EV p.2))→Born es clock→CD P w0 n c Q f (Blk b (.map es clock)::l)):CD P w0 n c Q f (MapO EK EV b kvs::l):=fun a w r s =>
  let ⟨es,clock,h1,h2,s'⟩:=s.mapOpen
  h es clock h1 h2 a w r s'
end
section
variable {P:Program} {w0:World} {n:Nat} {Q:Exit→Act→World→Prop} {f:Fr} {l:List HProp} {ops:Array Oper} {rest:List Oper} {o:Oper} {R:Value→List HProp→Prop} {c:Code} {e:Exit}
theorem ol_pull6 {H0 H1 H2 H3 H4 H5 H6:HProp} (h:OL P w0 n ops Q rest f (H6::H0::H1::H2::H3::H4::H5::l)):OL P w0 n ops Q rest f (H0::H1::H2::H3::H4::H5::H6::l):=ol_pull 6 h
theorem cd_pull6 {H0 H1 H2 H3 H4 H5 H6:HProp} (h:CD P w0 n c Q f (H6::H0::H1::H2::H3::H4::H5::l)):CD P w0 n c Q f (H0::H1::H2::H3::H4::H5::H6::l):=cd_pull 6 h
theorem os_pull6 {H0 H1 H2 H3 H4 H5 H6:HProp} (h:OS P w0 n o f (H6::H0::H1::H2::H3::H4::H5::l) R):OS P w0 n o f (H0::H1::H2::H3::H4::H5::H6::l) R:=os_map (fun _ s=>s.pull 6) h
theorem ol_pull7 {H0 H1 H2 H3 H4 H5 H6 H7:HProp} (h:OL P w0 n ops Q rest f (H7::H0::H1::H2::H3::H4::H5::H6::l)):OL P w0 n ops Q rest f (H0::H1::H2::H3::H4::H5::H6::H7::l):=ol_pull 7 h
theorem cd_pull7 {H0 H1 H2 H3 H4 H5 H6 H7:HProp} (h:CD P w0 n c Q f (H7::H0::H1::H2::H3::H4::H5::H6::l)):CD P w0 n c Q f (H0::H1::H2::H3::H4::H5::H6::H7::l):=cd_pull 7 h
theorem os_pull7 {H0 H1 H2 H3 H4 H5 H6 H7:HProp} (h:OS P w0 n o f (H7::H0::H1::H2::H3::H4::H5::H6::l) R):OS P w0 n o f (H0::H1::H2::H3::H4::H5::H6::H7::l) R:=os_map (fun _ s=>s.pull 7) h
theorem ol_pull8 {H0 H1 H2 H3 H4 H5 H6 H7 H8:HProp} (h:OL P w0 n ops Q rest f (H8::H0::H1::H2::H3::H4::H5::H6::H7::l)):OL P w0 n ops Q rest f (H0::H1::H2::H3::H4::H5::H6::H7::H8::l):=ol_pull 8 h
theorem cd_pull8 {H0 H1 H2 H3 H4 H5 H6 H7 H8:HProp} (h:CD P w0 n c Q f (H8::H0::H1::H2::H3::H4::H5::H6::H7::l)):CD P w0 n c Q f (H0::H1::H2::H3::H4::H5::H6::H7::H8::l):=cd_pull 8 h
theorem os_pull8 {H0 H1 H2 H3 H4 H5 H6 H7 H8:HProp} (h:OS P w0 n o f (H8::H0::H1::H2::H3::H4::H5::H6::H7::l) R):OS P w0 n o f (H0::H1::H2::H3::H4::H5::H6::H7::H8::l) R:=os_map (fun _ s=>s.pull 8) h
theorem ol_pull9 {H0 H1 H2 H3 H4 H5 H6 H7 H8 H9:HProp} (h:OL P w0 n ops Q rest f (H9::H0::H1::H2::H3::H4::H5::H6::H7::H8::l)):OL P w0 n ops Q rest f (H0::H1::H2::H3::H4::H5::H6::H7::H8::H9::l):=ol_pull 9 h
theorem cd_pull9 {H0 H1 H2 H3 H4 H5 H6 H7 H8 H9:HProp} (h:CD P w0 n c Q f (H9::H0::H1::H2::H3::H4::H5::H6::H7::H8::l)):CD P w0 n c Q f (H0::H1::H2::H3::H4::H5::H6::H7::H8::H9::l):=cd_pull 9 h
theorem ol_pull10 {H0 H1 H2 H3 H4 H5 H6 H7 H8 H9 H10:HProp} (h:OL P w0 n ops Q rest f (H10::H0::H1::H2::H3::H4::H5::H6::H7::H8::H9::l)):OL P w0 n ops Q rest f (H0::H1::H2::H3::H4::H5::H6::H7::H8::H9::H10::l):=ol_pull 10 h
theorem cd_pull10 {H0 H1 H2 H3 H4 H5 H6 H7 H8 H9 H10:HProp} (h:CD P w0 n c Q f (H10::H0::H1::H2::H3::H4::H5::H6::H7::H8::H9::l)):CD P w0 n c Q f (H0::H1::H2::H3::H4::H5::H6::H7::H8::H9::H10::l):=cd_pull 10 h
theorem os_pull10 {H0 H1 H2 H3 H4 H5 H6 H7 H8 H9 H10:HProp} (h:OS P w0 n o f (H10::H0::H1::H2::H3::H4::H5::H6::H7::H8::H9::l) R):OS P w0 n o f (H0::H1::H2::H3::H4::H5::H6::H7::H8::H9::H10::l) R:=os_map (fun _ s=>s.pull 10) h
theorem cd_pull11 {H0 H1 H2 H3 H4 H5 H6 H7 H8 H9 H10 H11:HProp} (h:CD P w0 n c Q f (H11::H0::H1::H2::H3::H4::H5::H6::H7::H8::H9::H10::l)):CD P w0 n c Q f (H0::H1::H2::H3::H4::H5::H6::H7::H8::H9::H10::H11::l):=cd_pull 11 h
theorem ol_pull12 {H0 H1 H2 H3 H4 H5 H6 H7 H8 H9 H10 H11 H12:HProp} (h:OL P w0 n ops Q rest f (H12::H0::H1::H2::H3::H4::H5::H6::H7::H8::H9::H10::H11::l)):OL P w0 n ops Q rest f (H0::H1::H2::H3::H4::H5::H6::H7::H8::H9::H10::H11::H12::l):=ol_pull 12 h
theorem cd_pull12 {H0 H1 H2 H3 H4 H5 H6 H7 H8 H9 H10 H11 H12:HProp} (h:CD P w0 n c Q f (H12::H0::H1::H2::H3::H4::H5::H6::H7::H8::H9::H10::H11::l)):CD P w0 n c Q f (H0::H1::H2::H3::H4::H5::H6::H7::H8::H9::H10::H11::H12::l):=cd_pull 12 h
theorem ol_pull13 {H0 H1 H2 H3 H4 H5 H6 H7 H8 H9 H10 H11 H12 H13:HProp} (h:OL P w0 n ops Q rest f (H13::H0::H1::H2::H3::H4::H5::H6::H7::H8::H9::H10::H11::H12::l)):OL P w0 n ops Q rest f (H0::H1::H2::H3::H4::H5::H6::H7::H8::H9::H10::H11::H12::H13::l):=ol_pull 13 h
theorem ol_pull14 {H0 H1 H2 H3 H4 H5 H6 H7 H8 H9 H10 H11 H12 H13 H14:HProp} (h:OL P w0 n ops Q rest f (H14::H0::H1::H2::H3::H4::H5::H6::H7::H8::H9::H10::H11::H12::H13::l)):OL P w0 n ops Q rest f (H0::H1::H2::H3::H4::H5::H6::H7::H8::H9::H10::H11::H12::H13::H14::l):=ol_pull 14 h
theorem cd_pull14 {H0 H1 H2 H3 H4 H5 H6 H7 H8 H9 H10 H11 H12 H13 H14:HProp} (h:CD P w0 n c Q f (H14::H0::H1::H2::H3::H4::H5::H6::H7::H8::H9::H10::H11::H12::H13::l)):CD P w0 n c Q f (H0::H1::H2::H3::H4::H5::H6::H7::H8::H9::H10::H11::H12::H13::H14::l):=cd_pull 14 h
end
section
variable {β:Type} (F:Nat→β→HProp)
def PtrAt:Option Addr→Option β→HProp
  | none,none=>emp
  | some a,some v=>fun h=>∃ q,a=⟨q,0,none⟩∧F q v h
  | _,_=>fun _=>False
def PtrsO:List (Option Addr)→List (Option β)→HProp
  | [],[]=>emp
  | a::ps,v::vs=>sep (PtrAt F a v) (PtrsO ps vs)
  | _,_=>fun _=>False
variable {F}
theorem ptrs_len {ps:List (Option Addr)} {vs:List (Option β)} {h:Hp} (p:PtrsO F ps vs h):ps.length=vs.length:=by
  induction ps generalizing vs h with
  | nil=>cases vs with
    | nil=>rfl
    | cons v vs=>exact p.elim
  | cons a ps ih=>cases vs with
    | nil=>exact p.elim
    | cons v vs =>
      obtain ⟨x,y,d,e,_,q⟩:=p
      rw [List.length_cons,List.length_cons,ih q]
theorem ptrs_split {ps:List (Option Addr)} {vs:List (Option β)} {i:Nat} {a:Option Addr} {v:Option β} (ha:ps[i]? = some a) (hv:vs[i]? = some v):PtrsO F ps vs=sep (PtrAt F a v) (PtrsO F (ps.eraseIdx i) (vs.eraseIdx i)):=by
  induction ps generalizing vs i with
  | nil=>simp at ha
  | cons a' ps ih=>cases vs with
    | nil=>simp at hv
    | cons v' vs=>cases i with
      | zero=>simp at ha hv;subst ha hv;rfl
      | succ i =>
        have:=ih (vs:=vs) (i:=i) (by simpa using ha) (by simpa using hv)
        simp only [PtrsO,List.eraseIdx_cons_succ,this]
        rw [sep_left_comm]
theorem ptrs_none (n:Nat):PtrsO F (List.replicate n none) (List.replicate n none)=emp:=by
  induction n with
  | zero=>rfl
  | succ n ih=>simp only [List.replicate_succ,PtrsO,ih,PtrAt,emp_sep]
variable {w0 w:World} {l:List HProp}
theorem Sat.head_sep {A B:HProp}:Sat w0 w (sep A B::l)↔Sat w0 w (A::B::l):=by
  constructor<;>intro s<;>refine s.map fun h x=>?_
  · simp only [stars] at x ⊢;rwa [sep_assoc] at x
  · simp only [stars] at x ⊢;rwa [sep_assoc]
theorem Sat.ptrs_len {ps:List (Option Addr)} {vs:List (Option β)} (s:Sat w0 w (PtrsO F ps vs::l)):ps.length=vs.length:=by
  obtain ⟨h,a,x,y,d,rfl,p,q⟩:=s.own
  exact Go.SL.ptrs_len p
theorem Sat.ptrs_at {ps:List (Option Addr)} {vs:List (Option β)} (s:Sat w0 w (PtrsO F ps vs::l)) (i:Nat) {v:Option β} (hv:vs[i]? = some v) :
    (v=none∧ps[i]? = some none)∨∃ q u,v=some u∧ps[i]? = some (some ⟨q,0,none⟩)∧Sat w0 w (F q u::PtrsO F (ps.eraseIdx i) (vs.eraseIdx i)::l):=by
  have hl:=s.ptrs_len
  have hi:i<ps.length:=by rw [hl];exact (List.getElem?_eq_some_iff.1 hv).1
  have ha:ps[i]? = some ps[i]:=List.getElem?_eq_getElem hi
  generalize ps[i]=a at ha
  rw [ptrs_split ha hv] at s
  have s':=Sat.head_sep.1 s
  obtain ⟨h,a1,x,y,d,rfl,p,q⟩:=s'.own
  cases a with
  | none=>cases v with
    | none=>exact .inl ⟨rfl,ha⟩
    | some u=>exact p.elim
  | some b=>cases v with
    | none=>exact p.elim
    | some u =>
      obtain ⟨b',rfl,hp⟩:=p
      exact .inr ⟨b',u,rfl,ha,s'.os,s'.tape,s'.output,s'.size,_,a1,x,y,d,rfl,hp,q⟩
theorem Sat.ptrs_back {ps:List (Option Addr)} {vs:List (Option β)} {i q:Nat} {u:β} (s:Sat w0 w (F q u::PtrsO F (ps.eraseIdx i) (vs.eraseIdx i)::l)) (hv:vs[i]? = some (some u)) (ha:ps[i]? = some (some ⟨q,0,none⟩)):Sat w0 w (PtrsO F ps vs::l):=by
  rw [ptrs_split ha hv]
  exact Sat.head_sep.2 (s.head fun h x=>⟨q,rfl,x⟩)
theorem cd_ptrs {P:Program} {n:Nat} {Q:Exit→Act→World→Prop} {f:Fr} {c:Code} {ps:List (Option Addr)} {vs:List (Option β)} (i:Nat) (hi:i<vs.length)
    (h0:vs[i]? = some none→ps[i]? = some none→CD P w0 n c Q f (PtrsO F ps vs::l))
    (h1:∀ q u,vs[i]? = some (some u)→ps[i]? = some (some ⟨q,0,none⟩)→CD P w0 n c Q f (F q u::PtrsO F (ps.eraseIdx i) (vs.eraseIdx i)::l)):CD P w0 n c Q f (PtrsO F ps vs::l):=fun a w r s=>by
  have hv:vs[i]? = some vs[i]:=List.getElem?_eq_getElem hi
  generalize vs[i]=v at hv
  rcases s.ptrs_at i hv with ⟨rfl,h2⟩ | ⟨q,u,rfl,h2,s'⟩
  · exact h0 hv h2 a w r s
  · exact h1 q u hv h2 a w r s'
end
def memb:List (Nat×Nat)→Nat→Bool
  | [],_=>false
  | (a,b)::r,t=>bif Nat.ble a t then (bif Nat.ble t b then true else memb r t) else memb r t
def over (M:List (Nat×Nat)) (f0 f:Fr):Fr:=fun t=>bif memb M t then f t else f0 t
def Kept (M:List (Nat×Nat)) (f0 f:Fr):Prop:=∀ t,memb M t=false→f t=f0 t
theorem kept_over {M:List (Nat×Nat)} {f0 f:Fr}:Kept M f0 (over M f0 f):=fun t h=>by unfold over;rw [h];rfl
theorem kept_upd {M:List (Nat×Nat)} {f0 f:Fr} {d:Nat} {v:Value} (hd:memb M d=true) (h:Kept M f0 f):Kept M f0 (upd f d v):=fun t ht=>by
  have:t≠d:=fun e=>by subst e;rw [hd] at ht;cases ht
  unfold upd
  rw [beq_ne this]
  exact h t ht
def subB (M' M:List (Nat×Nat)):Bool:=M'.all fun p=>(List.range (p.2+1)).all fun k=>!(Nat.ble p.1 k) || memb M k
theorem memb_iff {M:List (Nat×Nat)} {t:Nat}:memb M t=true↔∃ p∈M,p.1≤t∧t≤p.2:=by
  induction M with
  | nil=>simp [memb]
  | cons p r ih =>
    obtain ⟨a,b⟩:=p
    unfold memb
    cases h1:Nat.ble a t<;>cases h2:Nat.ble t b<;>simp only [cond_true,cond_false,ih,List.mem_cons,exists_eq_or_imp,Nat.ble_eq] at h1 h2 ⊢
    · have:¬ a≤t:=fun h=>by rw [Nat.ble_eq_true_of_le h] at h1;cases h1
      simp [this]
    · have:¬ a≤t:=fun h=>by rw [Nat.ble_eq_true_of_le h] at h1;cases h1
      simp [this]
    · have:¬ t≤b:=fun h=>by rw [Nat.ble_eq_true_of_le h] at h2;cases h2
      simp [this]
    · simp [h1,h2]
theorem kept_overS {M M':List (Nat×Nat)} {f0 f1 f:Fr} (hs:subB M' M=true) (h:Kept M f0 f1):Kept M f0 (over M' f1 f):=fun t ht=>by
  have:memb M' t=false:=by
    cases e:memb M' t with
    | false=>rfl
    | true =>
      obtain ⟨p,hp,h1,h2⟩:=memb_iff.1 e
      have h3:=List.all_eq_true.1 (List.all_eq_true.1 hs p hp) t (by simp;omega)
      rw [ht,Nat.ble_eq_true_of_le h1] at h3
      cases h3
  unfold over
  rw [this]
  exact h t ht
theorem Kept.over_eq {M:List (Nat×Nat)} {f0 f:Fr} (h:Kept M f0 f):over M f0 f=f:=by
  funext t
  unfold over
  cases e:memb M t with
  | true=>rfl
  | false=>exact (h t e).symm
theorem kept_self {M:List (Nat×Nat)} {f0:Fr}:Kept M f0 f0:=fun _ _=>rfl
section
variable {P:Program} {w0:World} {n:Nat} {Q:Exit→Act→World→Prop} {f f0:Fr} {l l':List HProp} {ops:Array Oper}
def LN2 (w0:World) (n:Nat) (M:List (Nat×Nat)) (f0:Fr) {α:Type} (S:α→List (Nat×Value)) (L:α→List HProp) (φ:α→Prop) (m:α→Nat) (k:Nat):Act→World→Prop :=
  fun a w=>∃ y f,φ y∧m y<k∧Agree f (S y)∧Kept M f0 f∧Rep n a f∧Sat w0 w (L y)
theorem cd_loop2 {α:Type} {body:Code} (M:List (Nat×Nat)) (S:α→List (Nat×Value)) (L:α→List HProp) (φ:α→Prop) (m:α→Nat) (x:α) (h0:φ x) (hf:Agree f (S x)) (hl:∀ w,Sat w0 w l→Sat w0 w (L x))
    (round:∀ x,φ x→∀ f',CD P w0 n body (Exit.then (LN2 w0 n M f S L φ m (m x)) Q) (upds (over M f f') (S x)) (L x)):CD P w0 n (.loop body) Q f l:=by
  intro a w r s
  let G:Act→World→Nat→Prop:=fun a w k=>∃ y f',φ y∧m y=k∧Agree f' (S y)∧Kept M f f'∧Rep n a f'∧Sat w0 w (L y)
  refine wp_loop (fun a w=>∃ k,G a w k) (fun a w=>Classical.epsilon fun k=>G a w k∧∀ j,G a w j→k≤j) ⟨m x,x,f,h0,rfl,hf,kept_self,r,hl w s⟩ ?_
  intro a w hI
  have hG:=Classical.epsilon_spec (p:=fun k=>G a w k∧∀ j,G a w j→k≤j) (least hI)
  generalize (Classical.epsilon fun k=>G a w k∧∀ j,G a w j→k≤j)=k at hG ⊢
  obtain ⟨⟨y,f',hy,hm,hA,hK,hr,hs⟩,_⟩:=hG
  have hr':Rep n a (upds (over M f f') (S y)):=by rw [hK.over_eq,upds_agree hA];exact hr
  have:=round y hy f' a w hr' hs
  refine wp_mono this fun e a' w' hq=>?_
  cases e with
  | normal =>
    obtain ⟨z,f'',hz,hlt,hA',hK',hr'',hs'⟩:=hq
    have hex:∃ k,G a' w' k:=⟨m z,z,f'',hz,rfl,hA',hK',hr'',hs'⟩
    refine ⟨hex,?_⟩
    have h1:=(Classical.epsilon_spec (p:=fun k=>G a' w' k∧∀ j,G a' w' j→k≤j) (least hex)).2 (m z) ⟨z,f'',hz,rfl,hA',hK',hr'',hs'⟩
    omega
  | _=>exact hq
theorem px_loop2 {α:Type} {M:List (Nat×Nat)} {S:α→List (Nat×Value)} {L:α→List HProp} {φ:α→Prop} {m:α→Nat} {k:Nat} (y:α) (h1:φ y) (h2:m y<k) (h3:Agree f (S y)) (hk:Kept M f0 f) (h4:∀ w,Sat w0 w l→Sat w0 w (L y)) :
    PX w0 n .normal (Exit.then (LN2 w0 n M f0 S L φ m k) Q) f l:=fun _ w r s=>⟨y,f,h1,h2,h3,hk,r,h4 w s⟩
end
section
variable {α:Type} {E:Enc α} {P:Program} {w0 w:World} {n:Nat} {f:Fr} {l l':List HProp} {d:Option Tmp} {ty:TypeId} {pos:String} {aft:Array Edge} {g:Option (Nat×Bool)} {x y z:Operand} {T T':TypeId} {u v:Value} {ao:Option Addr} {xs:List α} {i:Nat}
theorem op_ldw (hT:scalarB P T=true) (hr:Rds w0 l E ao xs) (hx:ev f x=.pointer (oad ao (i*E.size))) (hi:i<xs.length) (hv:(E.cells xs[i])[0]? = some v):OP P w0 n ⟨d,.load T x,ty,pos,aft,g⟩ f l v :=
  op_lde i 0 hT hx hr hi (Nat.ble_eq_true_of_le E.pos) rfl hv
theorem op_ldf (j:Nat) (hT:scalarB P T=true) (hr:Rds w0 l E ao xs) (hx:ev f x=.pointer (oad ao (i*E.size+j))) (hi:i<xs.length) (hj:Nat.ble (j+1) E.size=true) (hv:(E.cells xs[i])[j]? = some v):OP P w0 n ⟨d,.load T x,ty,pos,aft,g⟩ f l v :=
  op_lde i j hT hx hr hi hj rfl hv
theorem op_ldaw {k:Nat} {L:List Value} (hT:aggB P T=some k) (hr:Rds w0 l E ao xs) (hx:ev f x=.pointer (oad ao (i*E.size))) (hi:i<xs.length) (hj:Nat.ble k E.size=true) (hv:((E.cells xs[i]).drop 0).take k=L):OP P w0 n ⟨d,.load T x,ty,pos,aft,g⟩ f l (.agg L.toArray) :=
  op_ldea i 0 hT hx hr hi (by rw [Nat.zero_add];exact hj) rfl hv
theorem op_ldaf {k:Nat} {L:List Value} (j:Nat) (hT:aggB P T=some k) (hr:Rds w0 l E ao xs) (hx:ev f x=.pointer (oad ao (i*E.size+j))) (hi:i<xs.length) (hj:Nat.ble (j+k) E.size=true) (hv:((E.cells xs[i]).drop j).take k=L):OP P w0 n ⟨d,.load T x,ty,pos,aft,g⟩ f l (.agg L.toArray) :=
  op_ldea i j hT hx hr hi hj rfl hv
theorem os_stsw {e m c:Nat} {x':α} (hT:scalarB P T=true) (hx:ev f x=.pointer (oad ao (i*E.size))) (hy:ev f y=v) (h1:v.oneCell'=true) (hi:i<xs.length) (hv:u=.slice ao m c) (hx':E.cells x'=(E.cells xs[i]).set 0 v) :
    OS P w0 n ⟨d,.store T x y,ty,pos,aft,g⟩ f (Row e E u xs::l) (fun z l'=>z=undef∧l'=Row e E u (xs.set i x')::l) :=
  os_ste i 0 hT hx hy h1 hi (Nat.ble_eq_true_of_le E.pos) rfl hv hx'
theorem os_staw {e m c k:Nat} {L:List Value} {x':α} (hT:aggB P T=some k) (hx:ev f x=.pointer (oad ao (i*E.size))) (hy:ev f y=.agg L.toArray) (hk:E.size=k) (hL:E.cells x'=L) (hi:i<xs.length) (hv:u=.slice ao m c) :
    OS P w0 n ⟨d,.store T x y,ty,pos,aft,g⟩ f (Row e E u xs::l) (fun z l'=>z=undef∧l'=Row e E u (xs.set i x')::l) :=
  os_stew i hT hx hy hk hL hi rfl hv
end
open Go.WideShapes
section
variable {H:Type} {enc:TypeId×Value→H} {P:Program} {W:World} {t e:TypeId} {r:Reach} {b0:Nat} {v:Value} {d:DataW H} {ps:List MemPlace}
theorem seg (cs:List Value) (k s:Nat):cs.drop k=(cs.drop k).take s++cs.drop (k+s):=by
  rw [←List.drop_drop,List.take_append_drop]
end
theorem ins_none {K V:Type} [DecidableEq K] {kvs:List (K×V)} {k:K} {v:V} (h:look kvs k=none):ins kvs k v=kvs++[(k,v)]:=by unfold ins;rw [h];rfl
/-- the name of a small number -/
def nameR (n:Int):Root:=(Root.zero.set 0 (byteI n)).set 31 (byteI (IntKind.i64.wrap (7*n)))
/-- a whole number as an unsigned one -/
def u64N (n:Int):Nat:=(n % 18446744073709551616).toNat
theorem u64N_lt (n:Int):u64N n<18446744073709551616:=by unfold u64N;omega
theorem u64N_nat {n:Int} (h:0≤n) (h2:n<18446744073709551616):u64N n=n.toNat:=by unfold u64N;omega
section
variable {P:Program} {w0 w:World} {n:Nat} {f:Fr} {l l':List HProp} {d:Option Tmp} {ty:TypeId} {pos:String} {aft:Array Edge} {g:Option (Nat×Bool)} {x y z:Operand} {T T':TypeId} {u v:Value}
theorem op_conv64i {k:IntKind} {A:Int} (hu:P.underlying T'=some (.int .u64)) (hT:(P.underlying T).isSome=true) (hx:ev f x=.int k A):OP P w0 n ⟨d,.convert T T' x,ty,pos,aft,g⟩ f l (.int .u64 ((u64N A:Nat):Int)):=by
  have:=op_convi (P:=P) (w0:=w0) (n:=n) (l:=l) (d:=d) (ty:=ty) (pos:=pos) (aft:=aft) (g:=g) hu hT hx
  have e:IntKind.u64.wrap A=((u64N A:Nat):Int):=by
    have h:IntKind.u64.wrap A=A % 18446744073709551616:=by simp [IntKind.wrap,IntKind.signed,IntKind.bits]
    rw [h]
    unfold u64N
    omega
  rw [e] at this
  exact this
theorem os_insert {K V:Type} [DecidableEq K] {EK:K→Value} {EV:V→Value} {kt et b:Nat} {kvs:List (K×V)} (k:K) (q:V) (hT:P.underlying T=some (.map kt et)) (H:KeyOK P kt EK kvs k) (hx:ev f x=.map (some b)) (hy:ev f y=EK k) (hz:ev f z=EV q) :
    OS P w0 n ⟨d,.insert T x y z,ty,pos,aft,g⟩ f (MapO EK EV b kvs::l) (fun u l'=>u=undef∧l'=MapO EK EV b (ins kvs k q)::l):=fun a w r s =>
  (os_mapUpdate (d:=d) (ty:=ty) (pos:=pos) (aft:=aft) (g:=g) (n:=n) k q hT H hx hy hz) a w r s
theorem os_makeMapO {K V:Type} (EK:K→Value) (EV:V→Value):OS P w0 n ⟨d,.makeMap T none,ty,pos,aft,g⟩ f l (fun v l'=>∃ b,v=.map (some b)∧l'=MapO EK EV b []::l):=fun a w r s=>by
  have h:=os_makeMap (P:=P) (w0:=w0) (n:=n) (T:=T) (d:=d) (ty:=ty) (pos:=pos) (aft:=aft) (g:=g) (f:=f) (l:=l) a w r s
  refine h.mono ?_
  rintro v w' ⟨l',⟨b,rfl,rfl⟩,s'⟩
  exact ⟨_,⟨b,rfl,rfl⟩,s'.mapNew EK EV⟩
theorem op_makefunc {fn:Fn} {first cap:Array Operand} {F C:List Value} (hF:first.toList.map (ev f)=F) (hC:cap.toList.map (ev f)=C):OP P w0 n ⟨d,.makeFunc fn first cap,ty,pos,aft,g⟩ f l (.func fn F.toArray C.toArray):=fun M a w r s=>by
  have h1:first.map a.eval=F.toArray:=by
    rw [←hF];apply Array.toList_inj.1;rw [Array.toList_map];simp only [List.toList_toArray];congr 1;funext x;exact r.eval x
  have h2:cap.map a.eval=C.toArray:=by
    rw [←hC];apply Array.toList_inj.1;rw [Array.toList_map];simp only [List.toList_toArray];congr 1;funext x;exact r.eval x
  simp [execOp,Instr.makeFunc,h1,h2]
theorem os_callv {k:Nat} {args:Array Operand} {as_:Array TypeId} {vs C:List Value} {R:Value→List HProp→Prop} (hB:callB P k=true) (hf:ev f y=.func (.func k) #[] C.toArray) (hv:args.toList.map (ev f)=vs)
    (hc:∀ w,Sat w0 w l→Calls P k (vs++C).toArray w (Ret w0 R)):OS P w0 n ⟨d,.call ⟨.value y,args,as_⟩,ty,pos,aft,g⟩ f l R:=fun a w r s=>by
  have he:args.map a.eval=vs.toArray:=by
    rw [←hv];apply Array.toList_inj.1;rw [Array.toList_map];simp only [List.toList_toArray];congr 1;funext x;exact r.eval x
  have hfv:a.eval y=.func (.func k) #[] C.toArray:=(r.eval y).trans hf
  unfold callB at hB
  cases hk:P.funcs[k]? with
  | none=>simp [hk] at hB
  | some fn =>
    simp only [hk,Bool.and_eq_true,Bool.not_eq_true',Option.isSome_iff_exists] at hB
    obtain ⟨h1,c,h2⟩:=hB
    have h1':¬ fn.name = "runtime.NumGoroutine":=by simpa using h1
    have hvc:vs.toArray++C.toArray=(vs++C).toArray:=by simp
    simp [execOp,resolve,Deferred.ofValue,invoke,callFunc,he,hfv,hk,h1',h2,gives]
    refine (hc w s).mono fun e w' hq=>?_
    obtain ⟨v,l',rfl,hR,s'⟩:=hq
    exact ⟨v,rfl,l',hR,s'⟩
/-- a name that is left at noughts -/
theorem op_buildr {parts:Array (Nat×Operand)} (hp:parts=#[]) (hB:rootB P T=true) (hz:zeroB P T=some (.agg (rootC Root.zero).toArray)):OP P w0 n ⟨d,.build T parts,ty,pos,aft,g⟩ f l (.agg (rootC Root.zero).toArray):=fun M a w r s=>by
  subst hp
  obtain ⟨e,q,hu,he,hc,hcT,hi,hg⟩:=rootB_spec hB
  obtain ⟨i,hi1,hi2⟩:=Option.bind_eq_some_iff.1 hz
  have hzr:(zeroValue T).run P w=.ok (.agg (rootC Root.zero).toArray) w:=by simp [zeroValue,typeInfo,hi1,hi2]
  have hcells:(Value.agg (rootC Root.zero).toArray).cells=(rootC Root.zero).toArray:=rfl
  simp only [execOp,Instr.build,Sem.run_bind,hzr,Result.andThen_ok,run_underlying hu,hcells]
  simp [sizeOf,typeInfo,hi,Instr.fill]
end
/-- a slice,as a value -/
structure SlV where
  a:Option Addr
  n:Nat
  c:Nat
  deriving DecidableEq
@[reducible] def SlV.v (s:SlV):Value:=.slice s.a s.n s.c
structure Val where
  stake:Int
  key:List UInt8
  deriving DecidableEq
def Val.zero:Val:=⟨0,[]⟩
def valC (v:Val):List Value:=[.int .i64 v.stake]++([.string (B v.key)])
theorem valC_len (v:Val):(valC v).length=2:=by simp [valC,rootC_len]
theorem valC_take' (v:Val):(valC v).take 2=valC v:=List.take_of_length_le (by rw [valC_len];exact Nat.le_refl _)
theorem valC_ta (v:Val):((valC v).drop 0).take 2=valC v:=valC_take' v
theorem valC_one (v:Val):∀ u∈valC v,u.oneCell'=true:=fun u hu=>by
  simp only [valC,List.mem_append,List.mem_singleton] at hu
  rcases hu with h | h
  · subst h;rfl
  · subst h;rfl
def encVal:Enc Val:=⟨valC,2,valC_len,valC_one,by omega⟩
theorem valC_d0 (v:Val):(valC v).drop 0=[.int .i64 v.stake]++([.string (B v.key)]):=rfl
theorem valC_l0 (v:Val):(valC v)[0]? = some (.int .i64 v.stake):=by
  have h:=valC_d0 v
  have h2:((valC v).drop 0)[0]? = some (.int .i64 v.stake):=by rw [h];rfl
  rwa [List.getElem?_drop] at h2
theorem valC_a0 (v:Val):(valC v).toArray[0]? = some (.int .i64 v.stake):=by
  rw [List.getElem?_toArray];exact valC_l0 v
theorem valC_d1 (v:Val):(valC v).drop 1=[.string (B v.key)]:=rfl
theorem valC_l1 (v:Val):(valC v)[1]? = some (.string (B v.key)):=by
  have h:=valC_d1 v
  have h2:((valC v).drop 1)[0]? = some (.string (B v.key)):=by rw [h];rfl
  rwa [List.getElem?_drop] at h2
theorem valC_a1 (v:Val):(valC v).toArray[1]? = some (.string (B v.key)):=by
  rw [List.getElem?_toArray];exact valC_l1 v
structure Cfg where
  vs:SlV
  epoch:Int
  committee:Int
  nodes:Int
  orphans:Int
  early:Int
  quota:Int
  peers:Int
  bytes:Int
  window:Int
  ban:Int
  decay:Int
  deriving DecidableEq
def Cfg.zero:Cfg:=⟨⟨none,0,0⟩,0,0,0,0,0,0,0,0,0,0,0⟩
def cfgC (v:Cfg):List Value:=[SlV.v v.vs]++([.int .i64 v.epoch]++([.int .i64 v.committee]++([.int .i64 v.nodes]++([.int .i64 v.orphans]++([.int .i64 v.early]++([.int .i64 v.quota]++([.int .i64 v.peers]++([.int .i64 v.bytes]++([.int .i64 v.window]++([.int .i64 v.ban]++([.int .i64 v.decay])))))))))))
theorem cfgC_len (v:Cfg):(cfgC v).length=12:=by simp [cfgC,rootC_len]
theorem cfgC_take' (v:Cfg):(cfgC v).take 12=cfgC v:=List.take_of_length_le (by rw [cfgC_len];exact Nat.le_refl _)
theorem cfgC_ta (v:Cfg):((cfgC v).drop 0).take 12=cfgC v:=cfgC_take' v
theorem cfgC_one (v:Cfg):∀ u∈cfgC v,u.oneCell'=true:=fun u hu=>by
  simp only [cfgC,List.mem_append,List.mem_singleton] at hu
  rcases hu with h | h | h | h | h | h | h | h | h | h | h | h
  · subst h;rfl
  · subst h;rfl
  · subst h;rfl
  · subst h;rfl
  · subst h;rfl
  · subst h;rfl
  · subst h;rfl
  · subst h;rfl
  · subst h;rfl
  · subst h;rfl
  · subst h;rfl
  · subst h;rfl
def encCfg:Enc Cfg:=⟨cfgC,12,cfgC_len,cfgC_one,by omega⟩
theorem cfgC_d0 (v:Cfg):(cfgC v).drop 0=[SlV.v v.vs]++([.int .i64 v.epoch]++([.int .i64 v.committee]++([.int .i64 v.nodes]++([.int .i64 v.orphans]++([.int .i64 v.early]++([.int .i64 v.quota]++([.int .i64 v.peers]++([.int .i64 v.bytes]++([.int .i64 v.window]++([.int .i64 v.ban]++([.int .i64 v.decay]))))))))))):=rfl
theorem cfgC_l0 (v:Cfg):(cfgC v)[0]? = some (SlV.v v.vs):=by
  have h:=cfgC_d0 v
  have h2:((cfgC v).drop 0)[0]? = some (SlV.v v.vs):=by rw [h];rfl
  rwa [List.getElem?_drop] at h2
theorem cfgC_a0 (v:Cfg):(cfgC v).toArray[0]? = some (SlV.v v.vs):=by
  rw [List.getElem?_toArray];exact cfgC_l0 v
theorem cfgC_s0 (v:Cfg) (x:SlV):(cfgC v).toArray.setIfInBounds 0 (SlV.v x)=(cfgC { v with vs:=x }).toArray:=by
  apply Array.toList_inj.1
  rw [Array.toList_setIfInBounds]
  show (cfgC v).set 0 _=cfgC _
  unfold cfgC
  simp [List.set_append,rootC_len]
theorem cfgC_d1 (v:Cfg):(cfgC v).drop 1=[.int .i64 v.epoch]++([.int .i64 v.committee]++([.int .i64 v.nodes]++([.int .i64 v.orphans]++([.int .i64 v.early]++([.int .i64 v.quota]++([.int .i64 v.peers]++([.int .i64 v.bytes]++([.int .i64 v.window]++([.int .i64 v.ban]++([.int .i64 v.decay])))))))))):=rfl
theorem cfgC_l1 (v:Cfg):(cfgC v)[1]? = some (.int .i64 v.epoch):=by
  have h:=cfgC_d1 v
  have h2:((cfgC v).drop 1)[0]? = some (.int .i64 v.epoch):=by rw [h];rfl
  rwa [List.getElem?_drop] at h2
theorem cfgC_a1 (v:Cfg):(cfgC v).toArray[1]? = some (.int .i64 v.epoch):=by
  rw [List.getElem?_toArray];exact cfgC_l1 v
theorem cfgC_d2 (v:Cfg):(cfgC v).drop 2=[.int .i64 v.committee]++([.int .i64 v.nodes]++([.int .i64 v.orphans]++([.int .i64 v.early]++([.int .i64 v.quota]++([.int .i64 v.peers]++([.int .i64 v.bytes]++([.int .i64 v.window]++([.int .i64 v.ban]++([.int .i64 v.decay]))))))))):=rfl
theorem cfgC_l2 (v:Cfg):(cfgC v)[2]? = some (.int .i64 v.committee):=by
  have h:=cfgC_d2 v
  have h2:((cfgC v).drop 2)[0]? = some (.int .i64 v.committee):=by rw [h];rfl
  rwa [List.getElem?_drop] at h2
theorem cfgC_a2 (v:Cfg):(cfgC v).toArray[2]? = some (.int .i64 v.committee):=by
  rw [List.getElem?_toArray];exact cfgC_l2 v
theorem cfgC_d3 (v:Cfg):(cfgC v).drop 3=[.int .i64 v.nodes]++([.int .i64 v.orphans]++([.int .i64 v.early]++([.int .i64 v.quota]++([.int .i64 v.peers]++([.int .i64 v.bytes]++([.int .i64 v.window]++([.int .i64 v.ban]++([.int .i64 v.decay])))))))):=rfl
theorem cfgC_l3 (v:Cfg):(cfgC v)[3]? = some (.int .i64 v.nodes):=by
  have h:=cfgC_d3 v
  have h2:((cfgC v).drop 3)[0]? = some (.int .i64 v.nodes):=by rw [h];rfl
  rwa [List.getElem?_drop] at h2
theorem cfgC_a3 (v:Cfg):(cfgC v).toArray[3]? = some (.int .i64 v.nodes):=by
  rw [List.getElem?_toArray];exact cfgC_l3 v
theorem cfgC_d4 (v:Cfg):(cfgC v).drop 4=[.int .i64 v.orphans]++([.int .i64 v.early]++([.int .i64 v.quota]++([.int .i64 v.peers]++([.int .i64 v.bytes]++([.int .i64 v.window]++([.int .i64 v.ban]++([.int .i64 v.decay]))))))):=rfl
theorem cfgC_l4 (v:Cfg):(cfgC v)[4]? = some (.int .i64 v.orphans):=by
  have h:=cfgC_d4 v
  have h2:((cfgC v).drop 4)[0]? = some (.int .i64 v.orphans):=by rw [h];rfl
  rwa [List.getElem?_drop] at h2
theorem cfgC_a4 (v:Cfg):(cfgC v).toArray[4]? = some (.int .i64 v.orphans):=by
  rw [List.getElem?_toArray];exact cfgC_l4 v
theorem cfgC_d5 (v:Cfg):(cfgC v).drop 5=[.int .i64 v.early]++([.int .i64 v.quota]++([.int .i64 v.peers]++([.int .i64 v.bytes]++([.int .i64 v.window]++([.int .i64 v.ban]++([.int .i64 v.decay])))))):=rfl
theorem cfgC_l5 (v:Cfg):(cfgC v)[5]? = some (.int .i64 v.early):=by
  have h:=cfgC_d5 v
  have h2:((cfgC v).drop 5)[0]? = some (.int .i64 v.early):=by rw [h];rfl
  rwa [List.getElem?_drop] at h2
theorem cfgC_a5 (v:Cfg):(cfgC v).toArray[5]? = some (.int .i64 v.early):=by
  rw [List.getElem?_toArray];exact cfgC_l5 v
theorem cfgC_d6 (v:Cfg):(cfgC v).drop 6=[.int .i64 v.quota]++([.int .i64 v.peers]++([.int .i64 v.bytes]++([.int .i64 v.window]++([.int .i64 v.ban]++([.int .i64 v.decay]))))):=rfl
theorem cfgC_l6 (v:Cfg):(cfgC v)[6]? = some (.int .i64 v.quota):=by
  have h:=cfgC_d6 v
  have h2:((cfgC v).drop 6)[0]? = some (.int .i64 v.quota):=by rw [h];rfl
  rwa [List.getElem?_drop] at h2
theorem cfgC_a6 (v:Cfg):(cfgC v).toArray[6]? = some (.int .i64 v.quota):=by
  rw [List.getElem?_toArray];exact cfgC_l6 v
theorem cfgC_d7 (v:Cfg):(cfgC v).drop 7=[.int .i64 v.peers]++([.int .i64 v.bytes]++([.int .i64 v.window]++([.int .i64 v.ban]++([.int .i64 v.decay])))):=rfl
theorem cfgC_l7 (v:Cfg):(cfgC v)[7]? = some (.int .i64 v.peers):=by
  have h:=cfgC_d7 v
  have h2:((cfgC v).drop 7)[0]? = some (.int .i64 v.peers):=by rw [h];rfl
  rwa [List.getElem?_drop] at h2
theorem cfgC_a7 (v:Cfg):(cfgC v).toArray[7]? = some (.int .i64 v.peers):=by
  rw [List.getElem?_toArray];exact cfgC_l7 v
theorem cfgC_d8 (v:Cfg):(cfgC v).drop 8=[.int .i64 v.bytes]++([.int .i64 v.window]++([.int .i64 v.ban]++([.int .i64 v.decay]))):=rfl
theorem cfgC_l8 (v:Cfg):(cfgC v)[8]? = some (.int .i64 v.bytes):=by
  have h:=cfgC_d8 v
  have h2:((cfgC v).drop 8)[0]? = some (.int .i64 v.bytes):=by rw [h];rfl
  rwa [List.getElem?_drop] at h2
theorem cfgC_a8 (v:Cfg):(cfgC v).toArray[8]? = some (.int .i64 v.bytes):=by
  rw [List.getElem?_toArray];exact cfgC_l8 v
theorem cfgC_d9 (v:Cfg):(cfgC v).drop 9=[.int .i64 v.window]++([.int .i64 v.ban]++([.int .i64 v.decay])):=rfl
theorem cfgC_l9 (v:Cfg):(cfgC v)[9]? = some (.int .i64 v.window):=by
  have h:=cfgC_d9 v
  have h2:((cfgC v).drop 9)[0]? = some (.int .i64 v.window):=by rw [h];rfl
  rwa [List.getElem?_drop] at h2
theorem cfgC_a9 (v:Cfg):(cfgC v).toArray[9]? = some (.int .i64 v.window):=by
  rw [List.getElem?_toArray];exact cfgC_l9 v
theorem cfgC_d10 (v:Cfg):(cfgC v).drop 10=[.int .i64 v.ban]++([.int .i64 v.decay]):=rfl
theorem cfgC_l10 (v:Cfg):(cfgC v)[10]? = some (.int .i64 v.ban):=by
  have h:=cfgC_d10 v
  have h2:((cfgC v).drop 10)[0]? = some (.int .i64 v.ban):=by rw [h];rfl
  rwa [List.getElem?_drop] at h2
theorem cfgC_a10 (v:Cfg):(cfgC v).toArray[10]? = some (.int .i64 v.ban):=by
  rw [List.getElem?_toArray];exact cfgC_l10 v
theorem cfgC_d11 (v:Cfg):(cfgC v).drop 11=[.int .i64 v.decay]:=rfl
theorem cfgC_l11 (v:Cfg):(cfgC v)[11]? = some (.int .i64 v.decay):=by
  have h:=cfgC_d11 v
  have h2:((cfgC v).drop 11)[0]? = some (.int .i64 v.decay):=by rw [h];rfl
  rwa [List.getElem?_drop] at h2
theorem cfgC_a11 (v:Cfg):(cfgC v).toArray[11]? = some (.int .i64 v.decay):=by
  rw [List.getElem?_toArray];exact cfgC_l11 v
theorem open_agg {H:Type} {enc:TypeId×Value→H} {P:Program} {W:World} {t:TypeId} {r:Reach} {b0:Nat} {v:Value} {d:DataW H} {ps:List MemPlace} {fs:Array Field} {Q:List Value→Prop} (hu:P.underlying t=some (.struct fs)) (hval:Value.okWide P W r b0 t v) (hd:DataW.Trod enc P W 0 (fun _=>true) true t v d ps) (ho:Opens enc P W t Q):∃ cs,v=.agg cs∧Q cs.toList:=by
  have hv:∃ cs,v=.agg cs:=by
    unfold Value.okWide at hval
    rw [hu] at hval
    obtain ⟨cs,h,_⟩:=hval
    exact ⟨cs,h⟩
  obtain ⟨cs,rfl⟩:=hv
  exact ⟨cs,rfl,open_cells ho hd⟩
open Go.Lib
theorem strCells_B (ys:List UInt8):strCells (B ys)=encU8.flat ys:=by
  rw [encU8_flat]
  simp [strCells,B]
theorem run_append_rowS {P:Program} {w0 w:World} {l:List HProp} {v:Value} {xs:List UInt8} {ty t u e:TypeId} {i:TypeInfo} {z:Value} {bytes:Nat} (ht:P.underlying t=some (.slice e)) (hu:P.underlying u=some .string) (hi:P.info? e=some i) (hz:i.zero=some z) (hsize:i.size=1) (hby:i.bytes=bytes) (hzs:z.cells.size=1)
    (s:Sat w0 w (Row e encU8 v xs::l)) (ys:List UInt8) (hb:(xs.length+ys.length)*bytes≤140737488355328) (hml:xs.length+ys.length≤maxLen) :
    ∃ v' w',(Builtin.append_ #[t,u] ty #[v,.string (B ys)]).run P w=.ok v' w'∧Sat w0 w' (Row e encU8 v' (xs++ys)::l):=by
  have hE:encU8.size=1:=rfl
  have hlen:(encU8.flat ys).length=ys.length*1:=encU8.flat_length ys
  have hle:xs.length+ys.length≤9223372036854775807:=by simpa [maxLen] using hml
  have hss:(B ys).size=ys.length:=B_size ys
  rcases s.rowOpen with ⟨rfl,rfl,s'⟩ | ⟨g,off,cap,cur,fr,rfl,h2,h3,h4,h5,hf0,s'⟩
  · by_cases hm:ys.length=0
    · have hy:ys=[]:=List.eq_nil_of_length_eq_zero hm
      subst hy
      have hf:=run_firstCells_string (P:=P) w 1 (B [])
      rw [hss] at hf
      refine ⟨.slice none 0 0,w,?_,s⟩
      simp [Builtin.append_,run_underlying ht,run_underlying hu,sizeOf,typeInfo,hi,hsize,Builtin.lenOf,hss]
      simp at hf
      rw [hf]
      rfl
    · have hr:=run_append_nil_string (P:=P) w t u ty e i z ht hu hi hz (B ys) (by omega) (by omega) (by rw [hby,hss];simp at hb;omega)
      have e1:((B ys).data.map fun b=>Value.int .u8 b.toNat)=(encU8.flat ys).toArray:=by
        rw [←strCells_B]
        apply Array.ext'
        simp [strCells]
      rw [e1,hss] at hr
      refine ⟨_,_,hr,?_⟩
      have hge:=grownCap_ge w ys.length 0 e
      have hcm:=grownCap_le_maxLen w ys.length 0 e (by simpa using hml)
      have:=(s'.drew.alloc (.cells ((encU8.flat ys).toArray++Builtin.zeroCells z.cells (grownCap w ys.length 0 e-ys.length)) e)).rowMk (E:=encU8) (xs:=ys) (off:=0) (cap:=grownCap w ys.length 0 e) (Free.zero _) hge hcm
        (by simp only [Array.size_append,List.size_toArray,size_zeroCells,hzs,hlen,hE];omega)
        (by simp only [Array.toList_append,List.drop_zero];rw [←encU8.flat_length];exact List.take_left)
      simpa using this
  · by_cases hroom:xs.length+ys.length≤cap
    · have hf:=run_firstCells_string (P:=P) w 1 (B ys)
      rw [hss,strCells_B] at hf
      have hfit:off+xs.length*encU8.size+(encU8.flat ys).length≤cur.size:=by
        rw [hlen,hE]
        rw [hE] at h4
        omega
      have hst:=run_storeCells_row P g (off+xs.length*encU8.size) e fr (encU8.flat ys) 0 cur w s'.blk (by simpa using hfit) (encU8.flat_one ys) hf0
      have hadd:(⟨g,off,none⟩:Addr).add (xs.length*encU8.size)=⟨g,off+xs.length*encU8.size,none⟩:=by unfold Addr.add;split<;>simp_all
      refine ⟨.slice (some ⟨g,off,none⟩) (xs++ys).length cap,_,?_,(s'.setRow (cs':=(cur.toList.take (off+xs.length*encU8.size)++encU8.flat ys++cur.toList.drop (off+xs.length*encU8.size+(encU8.flat ys).length)).toArray)).rowMk ?_ ?_ h3 ?_ ?_⟩
      · simp only [Nat.add_zero] at hst
        rw [hE,Nat.mul_one] at hst hadd
        simp only [List.append_assoc] at hst
        simp [Builtin.append_,run_underlying ht,run_underlying hu,sizeOf,typeInfo,hi,Builtin.lenOf,hss,hroom,hf,hsize,hadd,hst,hE]
      · have hsz:((cur.toList.take (off+xs.length*encU8.size)++encU8.flat ys++cur.toList.drop (off+xs.length*encU8.size+(encU8.flat ys).length)).toArray).size=cur.size:=by
          simp only [List.size_toArray,List.length_append,List.length_take,List.length_drop,Array.length_toList]
          omega
        rw [hsz];exact hf0
      · rw [List.length_append];exact hroom
      · simp only [List.size_toArray,List.length_append,List.length_take,List.length_drop,Array.length_toList]
        omega
      · have hxl:(cur.toList.take (off+xs.length*encU8.size)).drop off=encU8.flat xs:=by
          rw [List.drop_take,←h5]
          congr 1
          omega
        have ht1:(cur.toList.take (off+xs.length*encU8.size)).length=off+xs.length*encU8.size:=by
          have hx:=Nat.mul_le_mul_right encU8.size h2
          have hy:cur.toList.length=cur.size:=by simp
          rw [List.length_take];omega
        rw [List.append_assoc,List.drop_append_of_le_length (by rw [ht1];omega),hxl,←List.append_assoc,←encU8.flat_append]
        rw [List.take_append_of_le_length (by rw [encU8.flat_length];exact Nat.le_refl _),List.take_of_length_le (by rw [encU8.flat_length];exact Nat.le_refl _)]
    · have holds:∀ j u,(encU8.flat xs)[j]? = some u→w.cell? ((⟨g,off,none⟩:Addr).add j)=some u:=(s.rowCells _ _ _ rfl).2 _ rfl
      have hr:=run_append_grow_string (P:=P) w t u ty e i z ht hu hi hz ⟨g,off,none⟩ xs.length cap (encU8.flat xs) (by rw [encU8.flat_length,hsize,hE]) holds (B ys) (by omega) (by rw [hss];omega) (by rw [hby,hss];exact growslice_fits (by omega) hb)
      rw [strCells_B,hss] at hr
      refine ⟨_,_,hr,?_⟩
      have hge:=grownCap_ge w (xs.length+ys.length) cap e
      have hcm:=grownCap_le_maxLen w (xs.length+ys.length) cap e hml
      have:=(s'.drop.drew.alloc (.cells ((encU8.flat xs).toArray++(encU8.flat ys).toArray++Builtin.zeroCells z.cells (grownCap w (xs.length+ys.length) cap e-(xs.length+ys.length))) e)).rowMk (E:=encU8) (xs:=xs++ys) (off:=0) (cap:=grownCap w (xs.length+ys.length) cap e) (Free.zero _) (by rw [List.length_append];exact hge) hcm
        (by simp only [Array.size_append,List.size_toArray,size_zeroCells,hzs,encU8.flat_length,←Nat.add_mul,Nat.zero_add];rw [hE];omega)
        (by simp only [Array.toList_append,List.drop_zero,List.append_assoc];rw [←List.append_assoc,←encU8.flat_append,←encU8.flat_length];exact List.take_left)
      simpa using this
section
variable {P:Program} {w0 w:World} {n:Nat} {f:Fr} {l:List HProp} {d:Option Tmp} {ty:TypeId} {pos:String} {aft:Array Edge} {g:Option (Nat×Bool)} {x y:Operand} {T T':TypeId}
theorem os_appendS {e by_:Nat} {zv sv:Value} {as:Array TypeId} {xs ys:List UInt8} (has:as=#[T,T']) (hT:sliceB P T=some (e,encU8.size,by_)) (hT':P.underlying T'=some .string) (hzv:(P.info? e).bind (·.zero)=some zv) (hzs:zv.cells.size=1) (hx:ev f x=sv) (hy:ev f y=.string (B ys))
    (hb:(xs.length+ys.length)*by_≤140737488355328) (hml:xs.length+ys.length≤maxLen) :
    OS P w0 n ⟨d,.call ⟨.builtin .append,#[x,y],as⟩,ty,pos,aft,g⟩ f (Row e encU8 sv xs::l) (fun v l'=>∃ ao k,v=.slice ao (xs++ys).length k∧l'=Row e encU8 v (xs++ys)::l):=fun a w r s=>by
  subst has
  obtain ⟨hu,q,hq,hs,hb'⟩:=sliceB_spec hT
  have hzz:q.zero=some zv:=by simpa [hq] using hzv
  obtain ⟨v',w',hrun,s'⟩:=run_append_rowS (P:=P) (ty:=ty) hu hT' hq hzz hs hb' hzs s ys hb hml
  obtain ⟨ao,k,hv,_⟩:=s'.rowSlice
  simp [execOp,resolve,invoke,builtin,r.eval,hx,hy,hrun,gives]
  exact ⟨_,⟨⟨ao,k,by simpa using hv⟩,rfl⟩,s'⟩
end
def encU32:Enc UInt32:=⟨fun x=>[.int .u32 (x.toNat:Int)],1,fun _=>rfl,fun x u hu=>by simp at hu;subst hu;rfl,by omega⟩
def wC (ws:List UInt32):List Value:=ws.map fun x=>.int .u32 (x.toNat:Int)
theorem wC_len (ws:List UInt32):(wC ws).length=ws.length:=by simp [wC]
theorem wC_one (ws:List UInt32):∀ v∈wC ws,v.oneCell'=true:=fun v hv=>by
  obtain ⟨b,_,rfl⟩:=List.mem_map.1 hv
  rfl
theorem wC_at {ws:List UInt32} {j:Nat} (h:j<ws.length) (X:List Value):(wC ws++X).toArray[j]? = some (.int .u32 (ws[j].toNat:Int)):=by
  rw [List.getElem?_toArray,List.getElem?_append_left (by rw [wC_len];exact h)]
  simp [wC,h]
theorem wC_at0 {ws:List UInt32} {j:Nat} (h:j<ws.length):(wC ws).toArray[j]? = some (.int .u32 (ws[j].toNat:Int)):=by
  simp [wC,h]
theorem wC_set {ws:List UInt32} {j:Nat} (h:j<ws.length) (u:UInt32) (X:List Value):(wC ws++X).toArray.setIfInBounds j (.int .u32 (u.toNat:Int))=(wC (ws.set j u)++X).toArray:=by
  apply Array.toList_inj.1
  rw [Array.toList_setIfInBounds]
  show (wC ws++X).set j _=wC _++X
  rw [List.set_append_left _ _ (by rw [wC_len];exact h)]
  simp [wC,List.map_set]
theorem wC_set0 {ws:List UInt32} {j:Nat} (u:UInt32):(wC ws).toArray.setIfInBounds j (.int .u32 (u.toNat:Int))=(wC (ws.set j u)).toArray:=by
  apply Array.toList_inj.1
  rw [Array.toList_setIfInBounds]
  show (wC ws).set j _=wC _
  simp [wC,List.map_set]
def shl32 (X:UInt32) (m:Nat):UInt32:=UInt32.ofNat (X.toNat*2 ^ m)
def shr32 (X:UInt32) (m:Nat):UInt32:=UInt32.ofNat (X.toNat / 2 ^ m)
def rotr (X:UInt32) (n:Nat):UInt32:=shl32 X (32-n) ||| shr32 X n
theorem wrap_u32_of (A:Nat):IntKind.u32.wrap (A:Int)=((UInt32.ofNat A).toNat:Int):=by
  rw [wrap_u32_nat]
  simp [UInt32.toNat_ofNat']
theorem mod_u32 (X:UInt32):X.toNat % 4294967296=X.toNat:=Nat.mod_eq_of_lt X.toNat_lt
section
variable {P:Program} {w0 w:World} {n:Nat} {f:Fr} {l l':List HProp} {d:Option Tmp} {ty:TypeId} {pos:String} {aft:Array Edge} {g:Option (Nat×Bool)} {x y z:Operand} {T T':TypeId} {v:Value}
theorem op_add32 (X Y:UInt32) (hx:ev f x=.int .u32 (X.toNat:Int)) (hy:ev f y=.int .u32 (Y.toNat:Int)):OP P w0 n ⟨d,.binOp .add T x y T',ty,pos,aft,g⟩ f l (.int .u32 ((X+Y).toNat:Int)):=by
  have:=op_addw (P:=P) (w0:=w0) (n:=n) (l:=l) (d:=d) (ty:=ty) (pos:=pos) (aft:=aft) (g:=g) (T:=T) (T':=T') hx hy
  rw [←Int.natCast_add,wrap_u32_of,UInt32.ofNat_add,UInt32.ofNat_toNat,UInt32.ofNat_toNat] at this
  exact this
theorem op_xor32 (X Y:UInt32) (hx:ev f x=.int .u32 (X.toNat:Int)) (hy:ev f y=.int .u32 (Y.toNat:Int)):OP P w0 n ⟨d,.binOp .xor T x y T',ty,pos,aft,g⟩ f l (.int .u32 ((X ^^^ Y).toNat:Int)):=fun M a w r s=>by
  simp only [execOp,r.eval,hx,hy,binOp]
  simp [eqGuard_int,Op.intBits]
  show IntKind.u32.wrap ((X.toNat % 4294967296 ^^^ Y.toNat % 4294967296:Nat):Int)=_
  rw [mod_u32,mod_u32,wrap_u32_of]
  congr 1
  rw [←UInt32.toNat_xor,UInt32.ofNat_toNat]
theorem op_and32 (X Y:UInt32) (hx:ev f x=.int .u32 (X.toNat:Int)) (hy:ev f y=.int .u32 (Y.toNat:Int)):OP P w0 n ⟨d,.binOp .and T x y T',ty,pos,aft,g⟩ f l (.int .u32 ((X &&& Y).toNat:Int)):=fun M a w r s=>by
  simp only [execOp,r.eval,hx,hy,binOp]
  simp [eqGuard_int,Op.intBits]
  show IntKind.u32.wrap ((X.toNat % 4294967296 &&& Y.toNat % 4294967296:Nat):Int)=_
  rw [mod_u32,mod_u32,wrap_u32_of]
  congr 1
  rw [←UInt32.toNat_and,UInt32.ofNat_toNat]
theorem op_or32 (X Y:UInt32) (hx:ev f x=.int .u32 (X.toNat:Int)) (hy:ev f y=.int .u32 (Y.toNat:Int)):OP P w0 n ⟨d,.binOp .or T x y T',ty,pos,aft,g⟩ f l (.int .u32 ((X ||| Y).toNat:Int)):=fun M a w r s=>by
  simp only [execOp,r.eval,hx,hy,binOp]
  simp [eqGuard_int,Op.intBits]
  show IntKind.u32.wrap ((X.toNat % 4294967296 ||| Y.toNat % 4294967296:Nat):Int)=_
  rw [mod_u32,mod_u32,wrap_u32_of]
  congr 1
  rw [←UInt32.toNat_or,UInt32.ofNat_toNat]
theorem not32 (X:UInt32):(4294967295#32 ^^^ X.toBitVec).toNat=(~~~ X).toNat:=by
  have h:(4294967295#32:BitVec 32)=BitVec.allOnes 32:=rfl
  rw [h,BitVec.allOnes_xor]
  rfl
theorem op_not32 (X:UInt32) (hx:ev f x=.int .u32 (X.toNat:Int)):OP P w0 n ⟨d,.unOp .xor T x,ty,pos,aft,g⟩ f l (.int .u32 ((~~~ X).toNat:Int)):=fun M a w r s=>by
  simp only [execOp,r.eval,hx]
  have h:IntKind.u32.wrap ((4294967295#32 ^^^ X.toBitVec).toNat:Int)=(((~~~ X).toNat:Nat):Int):=by
    rw [not32,wrap_u32_of,UInt32.ofNat_toNat]
  simp [Op.unary,Op.intBits,IntKind.signed,IntKind.max,IntKind.bits]
  exact h.trans (by simp)
theorem op_shl32 {m:Nat} {k':IntKind} (X:UInt32) (hx:ev f x=.int .u32 (X.toNat:Int)) (hy:ev f y=.int k' (m:Int)) (hm:m≤32):OP P w0 n ⟨d,.binOp .shl T x y T',ty,pos,aft,g⟩ f l (.int .u32 ((shl32 X m).toNat:Int)):=fun M a w r s=>by
  have h1:¬ ((m:Int)<0):=by omega
  have h2:min m IntKind.u32.bits=m:=Nat.min_eq_left hm
  have h3:IntKind.u32.wrap ((X.toNat:Int)*2 ^ m)=((shl32 X m).toNat:Int):=by
    unfold shl32
    rw [←wrap_u32_of];simp
  simp [execOp,r.eval,hx,hy,eqGuard_int,binOp,Op.shift,h1,h2,h3]
theorem op_shr32 {m:Nat} {k':IntKind} (X:UInt32) (hx:ev f x=.int .u32 (X.toNat:Int)) (hy:ev f y=.int k' (m:Int)) (hm:m≤32):OP P w0 n ⟨d,.binOp .shr T x y T',ty,pos,aft,g⟩ f l (.int .u32 ((shr32 X m).toNat:Int)):=by
  have:=op_shr_nat (P:=P) (w0:=w0) (n:=n) (l:=l) (d:=d) (ty:=ty) (pos:=pos) (aft:=aft) (g:=g) (T:=T) (T':=T') hx hy hm
  have e:(shr32 X m).toNat=X.toNat / 2 ^ m:=by
    unfold shr32
    rw [UInt32.toNat_ofNat']
    exact Nat.mod_eq_of_lt (Nat.lt_of_le_of_lt (Nat.div_le_self _ _) X.toNat_lt)
  rw [e]
  exact this
theorem op_conv32 {A:Nat} {k:IntKind} (hu:P.underlying T'=some (.int .u32)) (hT:(P.underlying T).isSome=true) (hx:ev f x=.int k (A:Int)):OP P w0 n ⟨d,.convert T T' x,ty,pos,aft,g⟩ f l (.int .u32 ((UInt32.ofNat A).toNat:Int)):=by
  have:=op_convi (P:=P) (w0:=w0) (n:=n) (l:=l) (d:=d) (ty:=ty) (pos:=pos) (aft:=aft) (g:=g) hu hT hx
  rwa [wrap_u32_of] at this
theorem op_neg {k:IntKind} {a:Int} (hx:ev f x=.int k a):OP P w0 n ⟨d,.unOp .neg T x,ty,pos,aft,g⟩ f l (.int k (k.wrap (0-a))):=fun M A w r s=>by
  simp [execOp,r.eval,hx,Op.unary,Op.intArith]
theorem op_and31 {A m:Nat} (hx:ev f x=.int .u64 (A:Int)) (hA:A<18446744073709551616) (hy:ev f y=.int .u64 31) (hm:A % 32=m):OP P w0 n ⟨d,.binOp .and T x y T',ty,pos,aft,g⟩ f l (.int .u64 (m:Int)):=fun M a w r s=>by
  subst hm
  simp only [execOp,r.eval,hx,hy,binOp]
  simp [eqGuard_int,Op.intBits]
  show IntKind.u64.wrap ((A % 18446744073709551616 &&& 31:Nat):Int)=_
  rw [Nat.mod_eq_of_lt hA,show (31:Nat)=2 ^ 5-1 from rfl,Nat.and_two_pow_sub_one_eq_mod]
  have h:A % 2 ^ 5<32:=Nat.mod_lt _ (by decide)
  rw [wrap_u64 (by omega) (by omega)]
  rfl
theorem op_sub32m {m k:Nat} (hx:ev f x=.int .u64 32) (hy:ev f y=.int .u64 (m:Int)) (h:m+k=32):OP P w0 n ⟨d,.binOp .sub T x y T',ty,pos,aft,g⟩ f l (.int .u64 (k:Int)):=by
  have:=op_subw (P:=P) (w0:=w0) (n:=n) (l:=l) (d:=d) (ty:=ty) (pos:=pos) (aft:=aft) (g:=g) (T:=T) (T':=T') hx hy
  rw [show (32:Int)-(m:Int)=(k:Int) by omega,wrap_u64 (by omega) (by omega)] at this
  exact this
/-- a[i] of an array that is a value -/
def arrpB (P:Program) (T:Nat):Option Nat:=match P.underlying T with
  | some (.array n e)=>if P.plainKey e=true then (P.info? e).bind fun i=>if i.size=1 then some n else none else none
  | _=>none
theorem op_ixa {m:Nat} {k:IntKind} {i:Int} {cs:Array Value} (j:Nat) (hT:arrpB P T=some m) (hx:ev f x=.agg cs) (hy:ev f y=.int k i) (hj:i=(j:Int)) (h:j<m) (hv:cs[j]? = some v):OP P w0 n ⟨d,.index T x y,ty,pos,aft,g⟩ f l v:=fun M a w r s=>by
  subst hj
  unfold arrpB at hT
  split at hT
  · rename_i n' e hu
    split at hT
    · rename_i hpk
      obtain ⟨q,hq,h1⟩:=Option.bind_eq_some_iff.1 hT
      split at h1
      · rename_i hs
        cases h1
        have h3:(j:Int)<(m:Int):=by omega
        have hp:=run_part_plain w hpk hv
        simp [execOp,r.eval,hx,hy,Instr.index,asIntOf,run_underlying hu,h,h3,sizeOf,typeInfo,hq,hs,hp]
      · cases h1
    · cases hT
  · cases hT
/-- an array of values of a size of one -/
def buildaB (P:Program) (T:Nat):Option (List Value):=match P.underlying T,(P.info? T).bind (·.zero) with
  | some (.array _ e),some z=>(P.info? e).bind fun i=>if i.size=1 then some z.cells.toList else none
  | _,_=>none
theorem op_builda {parts:Array (Nat×Operand)} {z L:List Value} {vs:List (Nat×Value)} (hB:buildaB P T=some z) (hp:(parts.toList.map fun p=>(p.1,ev f p.2))=vs) (hc:Instr.fill (fun i=>some (i*1,1)) z.toArray vs=some L.toArray) :
    OP P w0 n ⟨d,.build T parts,ty,pos,aft,g⟩ f l (.agg L.toArray):=fun M a w r s=>by
  unfold buildaB at hB
  split at hB
  · rename_i n' e zv hu hz
    obtain ⟨q,hq,h1⟩:=Option.bind_eq_some_iff.1 hB
    split at h1
    · rename_i hs
      cases h1
      obtain ⟨q2,hq2,hq3⟩:=Option.bind_eq_some_iff.1 hz
      have hzr:(zeroValue T).run P w=.ok zv w:=by simp [zeroValue,typeInfo,hq2,hq3]
      have hev:(parts.map fun (i,x)=>(i,a.eval x))=(parts.map fun (i,x)=>(i,ev f x)):=by
        congr 1;funext p;obtain ⟨i,x⟩:=p;simp only [r.eval]
      have hp':(parts.map fun (i,x)=>(i,ev f x)).toList=vs:=by
        rw [Array.toList_map];exact hp
      have hc':Instr.fill (fun i=>some (i*1,1)) zv.cells vs=some L.toArray:=by simpa using hc
      simp only [Nat.mul_one] at hc'
      have hp2:parts.toList.map (fun p=>(p.1,ev f p.2))=vs:=hp
      simp [execOp,Instr.build,hev,hzr,run_underlying hu,sizeOf,typeInfo,hq,hs]
      rw [hp2,hc']
      simp
    · cases h1
  · cases hB
/-- a[j:] and a[:j] of an array that a pointer leads to -/
theorem op_slicea_from {m b o:Nat} {k:IntKind} {i:Int} (j:Nat) (hT:arr1B P T=some m) (hx:ev f x=.pointer (some ⟨b,o,none⟩)) (hy:ev f y=.int k i) (hj:i=(j:Int)) (h:j<m):OP P w0 n ⟨d,.slice T x (some y) none none,ty,pos,aft,g⟩ f l (.slice (some ⟨b,o+j,none⟩) (m-j) (m-j)):=fun M a w r s=>by
  subst hj
  unfold arr1B at hT
  split at hT
  · rename_i n' e hu
    obtain ⟨q,hq,h1⟩:=Option.bind_eq_some_iff.1 hT
    split at h1
    · rename_i hs
      cases h1
      have hadd:(⟨b,o,none⟩:Addr).add j=⟨b,o+j,none⟩:=by unfold Addr.add;split<;>simp_all
      have h2:j≤m:=by omega
      have h4:¬ m=j:=by omega
      simp [execOp,r.eval,hx,hy,Instr.sliceAt,Instr.sureAddr,Instr.sliceBounds,Instr.sliceBound,asIntOf,run_underlying hu,h,h2,h4,sizeOf,typeInfo,hq,hs,hadd]
    · cases h1
  · cases hT
theorem op_slicea_to {m b o:Nat} {k:IntKind} {i:Int} (j:Nat) (hT:arr1B P T=some m) (hx:ev f x=.pointer (some ⟨b,o,none⟩)) (hy:ev f y=.int k i) (hj:i=(j:Int)) (h:j≤m) (h0:0<m):OP P w0 n ⟨d,.slice T x none (some y) none,ty,pos,aft,g⟩ f l (.slice (some ⟨b,o,none⟩) j m):=fun M a w r s=>by
  subst hj
  unfold arr1B at hT
  split at hT
  · rename_i n' e hu
    obtain ⟨q,hq,h1⟩:=Option.bind_eq_some_iff.1 hT
    split at h1
    · rename_i hs
      cases h1
      have hadd:(⟨b,o,none⟩:Addr).add 0=⟨b,o,none⟩:=by unfold Addr.add;split<;>simp_all
      have h4:¬ m=0:=by omega
      simp [execOp,r.eval,hx,hy,Instr.sliceAt,Instr.sureAddr,Instr.sliceBounds,Instr.sliceBound,asIntOf,run_underlying hu,h,h4,sizeOf,typeInfo,hq,hs,hadd]
    · cases h1
  · cases hT
theorem op_slicea_all {m b o:Nat} (hT:arr1B P T=some m) (hx:ev f x=.pointer (some ⟨b,o,none⟩)):OP P w0 n ⟨d,.slice T x none none none,ty,pos,aft,g⟩ f l (.slice (some ⟨b,o,none⟩) m m):=fun M a w r s=>by
  unfold arr1B at hT
  split at hT
  · rename_i n' e hu
    obtain ⟨q,hq,h1⟩:=Option.bind_eq_some_iff.1 hT
    split at h1
    · rename_i hs
      cases h1
      have hadd:(⟨b,o,none⟩:Addr).add 0=⟨b,o,none⟩:=by unfold Addr.add;split<;>simp_all
      by_cases h4:m=0
      · subst h4
        simp [execOp,r.eval,hx,Instr.sliceAt,Instr.sureAddr,Instr.sliceBounds,Instr.sliceBound,asIntOf,run_underlying hu,sizeOf,typeInfo,hq,hs,hadd]
      · simp [execOp,r.eval,hx,Instr.sliceAt,Instr.sureAddr,Instr.sliceBounds,Instr.sliceBound,asIntOf,run_underlying hu,h4,sizeOf,typeInfo,hq,hs,hadd]
    · cases h1
  · cases hT
/-- copy within one block,of cells of a size of one -/
def slice1B (P:Program) (T:Nat):Bool:=match P.underlying T with
  | some (.slice e)=>(match P.info? e with | some i=>i.size == 1 | none=>false)
  | _=>false
theorem os_copyw {as:Array TypeId} {b o1 n1 c1 o2 n2 c2:Nat} {cs:Array Value} {t:TypeId} {fr:Nat×Nat} (L:List Value) (S:TypeId) (hS:as[0]? = some S) (hT:slice1B P S=true) (hx:ev f x=.slice (some ⟨b,o1,none⟩) n1 c1) (hy:ev f y=.slice (some ⟨b,o2,none⟩) n2 c2)
    (h1:o1+min n2 n1≤cs.size) (h2:o2+min n2 n1≤cs.size) (hone:∀ u∈cs.toList,u.oneCell'=true) (hf:Free cs.size fr)
    (hL:cs.toList.take o1++(cs.toList.drop o2).take (min n2 n1)++cs.toList.drop (o1+min n2 n1)=L) :
    OS P w0 n ⟨d,.call ⟨.builtin .copy,#[x,y],as⟩,ty,pos,aft,g⟩ f (Blk b (.cells cs t fr)::l) (fun v l'=>v=.int .i64 ((min n2 n1:Nat):Int)∧l'=Blk b (.cells L.toArray t fr)::l):=fun a w r s=>by
  subst hL
  unfold slice1B at hT
  split at hT
  · rename_i e hu
    split at hT
    · rename_i i hi
      have hs:i.size=1:=by simpa using hT
      have hk:((cs.toList.drop o2).take (min n2 n1)).length=min n2 n1:=by simp;omega
      have hfc:=run_firstCells_some (P:=P) w 1 (min n2 n1) ⟨b,o2,none⟩ n2 c2 ((cs.toList.drop o2).take (min n2 n1)) (by rw [hk,Nat.mul_one]) (fun j u hu=>by
        have hadd:(⟨b,o2,none⟩:Addr).add j=⟨b,o2+j,none⟩:=by unfold Addr.add;split<;>simp_all
        rw [hadd,cell_of_row w b (o2+j) cs t fr s.blk]
        obtain ⟨hj,_⟩:=List.getElem?_eq_some_iff.1 hu
        rw [hk] at hj
        rw [List.getElem?_take_of_lt hj,List.getElem?_drop] at hu
        simpa using hu)
      have hst:=run_storeCells_row P b o1 t fr ((cs.toList.drop o2).take (min n2 n1)) 0 cs w s.blk (by rw [hk];omega) (fun u hu=>hone u (List.mem_of_mem_drop (List.mem_of_mem_take hu))) hf
      rw [hk] at hst
      simp only [Nat.add_zero] at hst
      have hb:(Builtin.copy_ as ty #[.slice (some ⟨b,o1,none⟩) n1 c1,.slice (some ⟨b,o2,none⟩) n2 c2]).run P w=.ok (.int .i64 ((min n2 n1:Nat):Int)) (w.setRow b (cs.toList.take o1++(cs.toList.drop o2).take (min n2 n1)++cs.toList.drop (o1+min n2 n1)).toArray):=by
        have hfc':=hfc
        have hst':=hst
        simp only [Builtin.copy_,hS]
        simp [run_underlying hu,Builtin.lenOf,sizeOf,typeInfo,hi,hs]
        rw [show Nat.min n2 n1=min n2 n1 from rfl,hfc']
        simp
        rw [show (List.take o1 cs.toList++(List.take (min n2 n1) (List.drop o2 cs.toList)++List.drop (o1+min n2 n1) cs.toList))=List.take o1 cs.toList++List.take (min n2 n1) (List.drop o2 cs.toList)++List.drop (o1+min n2 n1) cs.toList by rw [List.append_assoc],hst']
        simp [goInt]
      have:(execOp a.eval ⟨d,.call ⟨.builtin .copy,#[x,y],as⟩,ty,pos,aft,g⟩).run P w=.ok (.value (.int .i64 ((min n2 n1:Nat):Int))) (w.setRow b (cs.toList.take o1++(cs.toList.drop o2).take (min n2 n1)++cs.toList.drop (o1+min n2 n1)).toArray):=by
        have hax:a.eval x=ev f x:=r.eval x
        have hay:a.eval y=ev f y:=r.eval y
        simp only [List.append_assoc] at hb ⊢
        simp [execOp,resolve,invoke,builtin,hax,hay,hx,hy,hb]
      rw [this]
      exact ⟨_,⟨rfl,rfl⟩,s.setRow⟩
    · cases hT
  · cases hT
/-- v[j:] of an owned slice,which is owned on -/
theorem Sat.rowDrop {α:Type} {E:Enc α} {e:TypeId} {xs:List α} {ao:Option Addr} {c:Nat} (j:Nat) (hj:j≤xs.length) (s:Sat w0 w (Row e E (.slice ao xs.length c) xs::l)):xs.length≤c∧Sat w0 w (Row e E (.slice (if c=j then ao else oad ao (j*E.size)) (xs.drop j).length (c-j)) (xs.drop j)::l):=by
  rcases s.rowOpen with ⟨hv,rfl,s'⟩ | ⟨g,off,cap,cur,fr,hv,h2,h3,h4,h5,hf,s'⟩
  · injection hv with h1 _ h3
    subst h1 h3
    refine ⟨Nat.zero_le _,?_⟩
    have hj0:j=0:=by simpa using hj
    subst hj0
    simpa using s'.rowNil (E:=E) (e:=e)
  · injection hv with h1 _ h6
    subst h1 h6
    refine ⟨h2,?_⟩
    by_cases hc:c=j
    · subst hc
      rw [if_pos rfl,Nat.sub_self]
      have hd:xs.drop c=[]:=List.drop_eq_nil_of_le h2
      rw [hd]
      exact s'.rowMk hf (Nat.le_refl _) (Nat.zero_le _) (by simp;omega) (by simp [Enc.flat])
    · rw [if_neg hc]
      have hadd:(⟨g,off,none⟩:Addr).add (j*E.size)=⟨g,off+j*E.size,none⟩:=by unfold Addr.add;split<;>simp_all
      have he:oad (some ⟨g,off,none⟩) (j*E.size)=some ⟨g,off+j*E.size,none⟩:=by simp [oad,hadd]
      rw [he]
      have hm:j*E.size+(c-j)*E.size=c*E.size:=by rw [←Nat.add_mul];congr 1;omega
      have hx:j*E.size+(xs.length-j)*E.size=xs.length*E.size:=by rw [←Nat.add_mul];congr 1;omega
      refine s'.rowMk hf (by rw [List.length_drop];omega) (by omega) (by omega) ?_
      rw [List.length_drop]
      have h7:E.flat xs=E.flat (xs.take j)++E.flat (xs.drop j):=by rw [←E.flat_append,List.take_append_drop]
      have h8:(E.flat (xs.take j)).length=j*E.size:=by rw [E.flat_length,List.length_take,Nat.min_eq_left hj]
      have h9:=congrArg (List.drop (j*E.size)) h5
      rw [h7,←h8,List.drop_left,h8,List.drop_take,List.drop_drop,←hx,Nat.add_sub_cancel_left] at h9
      exact h9
theorem os_slicerow_from {α:Type} {E:Enc α} {e by_ c:Nat} {k:IntKind} {i:Int} {ao:Option Addr} {m:Nat} {xs:List α} (j:Nat) (hT:sliceB P T=some (e,E.size,by_)) (hx:ev f x=.slice ao m c) (hy:ev f y=.int k i) (hj:i=(j:Int)) (hm:m=xs.length) (h:j≤m):OS P w0 n ⟨d,.slice T x (some y) none none,ty,pos,aft,g⟩ f (Row e E (.slice ao m c) xs::l) (fun v l'=>∃ ao' c',v=.slice ao' (xs.drop j).length c'∧l'=Row e E (.slice ao' (xs.drop j).length c') (xs.drop j)::l):=fun a w r s=>by
  subst hm
  obtain ⟨hc,s'⟩:=s.rowDrop j h
  refine ((os_q (op_slice_from (P:=P) (w0:=w0) (n:=n) (l:=Row e E (.slice ao xs.length c) xs::l) (d:=d) (ty:=ty) (pos:=pos) (aft:=aft) (g:=g) j hT hx hy hj h)) a w r s).mono ?_
  rintro v w' ⟨l',⟨rfl,rfl⟩,s2⟩
  have s3:=(s2.rowDrop j h).2
  rw [List.length_drop] at s3
  exact ⟨_,⟨_,_,by rw [List.length_drop],rfl⟩,by rw [List.length_drop];exact s3⟩
/-- v[:j] of an owned slice,lent -/
theorem os_slicerow_lend {α:Type} {E:Enc α} {e by_ c:Nat} {k:IntKind} {i:Int} {ao:Option Addr} {m:Nat} {xs:List α} (j:Nat) (hT:sliceB P T=some (e,E.size,by_)) (hx:ev f x=.slice ao m c) (hy:ev f y=.int k i) (hj:i=(j:Int)) (hm:m=xs.length) (h:j≤m):OS P w0 n ⟨d,.slice T x none (some y) none,ty,pos,aft,g⟩ f (Row e E (.slice ao m c) xs::l) (fun v l'=>v=.slice ao (xs.take j).length c∧l'=Row e E (.slice ao m c) xs::l):=fun a w r s=>by
  subst hm
  obtain ⟨hc,_⟩:=s.rowDrop j h
  refine ((os_q (op_slice_to (P:=P) (w0:=w0) (n:=n) (l:=Row e E (.slice ao xs.length c) xs::l) (d:=d) (ty:=ty) (pos:=pos) (aft:=aft) (g:=g) j hT hx hy hj (by omega))) a w r s).mono ?_
  rintro v w' ⟨l',⟨rfl,rfl⟩,s2⟩
  exact ⟨_,⟨by rw [List.length_take,Nat.min_eq_left h],rfl⟩,s2⟩
end
theorem et_4 {P:Program} {w0:World} {n:Nat} {Q:Exit→Act→World→Prop} {f:Fr} {l M:List HProp} {ops:Array Oper} {imps:List Nat} {k:Nat} {listed:Array Bool} {i1 i2 i3 i4:Nat} (hrs:Region.ready .any ops listed=[i1,i2,i3,i4]) (h1:EI P w0 n ops imps (LN0 P w0 ops Q l) l k listed f M i1) (h2:EI P w0 n ops imps (LN0 P w0 ops Q l) l k listed f M i2) (h3:EI P w0 n ops imps (LN0 P w0 ops Q l) l k listed f M i3) (h4:EI P w0 n ops imps (LN0 P w0 ops Q l) l k listed f M i4):ET P w0 n ops imps ops.size (LN0 P w0 ops Q l) l (k+1) listed f M :=
  et_any [i1,i2,i3,i4] (by simp) hrs fun j hj=>by simp at hj;rcases hj with rfl | rfl | rfl | rfl<;>assumption
def CQ (w0:World) (n:Nat) (M:List (Nat×Nat)) (f0:Fr) {α:Type} (S:α→List (Nat×Value)) (L:α→List HProp):Exit→Act→World→Prop
  | .normal=>fun a w=>∃ y f,Agree f (S y)∧Kept M f0 f∧Rep n a f∧Sat w0 w (L y)
  | _=>fun _ _=>False
theorem cd_cut {P:Program} {w0:World} {n:Nat} {Q:Exit→Act→World→Prop} {f:Fr} {l:List HProp} {α:Type} {c1 c2:Code} (M:List (Nat×Nat)) (S:α→List (Nat×Value)) (L:α→List HProp)
    (h1:CD P w0 n c1 (CQ w0 n M f S L) f l) (h2:∀ x f',CD P w0 n c2 Q (upds (over M f f') (S x)) (L x)):CD P w0 n (.seq c1 c2) Q f l:=fun a w r s=>by
  refine wp_seq (wp_mono (h1 a w r s) fun e a' w' hq=>?_)
  cases e with
  | normal =>
    obtain ⟨y,f',hA,hK,hr,hs⟩:=hq
    exact h2 y f' a' w' (by rw [hK.over_eq,upds_agree hA];exact hr) hs
  | _=>exact hq.elim
theorem px_cut {w0:World} {n:Nat} {f f0:Fr} {l:List HProp} {α:Type} {M:List (Nat×Nat)} {S:α→List (Nat×Value)} {L:α→List HProp} (y:α) (h3:Agree f (S y)) (hk:Kept M f0 f) (h4:∀ w,Sat w0 w l→Sat w0 w (L y)) :
    PX w0 n .normal (CQ w0 n M f0 S L) f l:=fun _ w r s=>⟨y,f,h3,hk,r,h4 w s⟩
/-- &a[i] of an array at the block's beginning -/
theorem op_aidx0 {P:Program} {w0:World} {n:Nat} {f:Fr} {l:List HProp} {d:Option Tmp} {ty:TypeId} {pos:String} {aft:Array Edge} {g:Option (Nat×Bool)} {x y:Operand} {T:TypeId} {m b:Nat} {k:IntKind} {i:Int} (j:Nat) (hT:arr1B P T=some m) (hx:ev f x=.pointer (some ⟨b,0,none⟩)) (hy:ev f y=.int k i) (hj:i=(j:Int)) (h:j<m):OP P w0 n ⟨d,.indexAddr T x y,ty,pos,aft,g⟩ f l (.pointer (some ⟨b,j,none⟩)):=by
  have:=op_aidx (w0:=w0) (n:=n) (l:=l) (d:=d) (ty:=ty) (pos:=pos) (aft:=aft) (g:=g) j hT hx hy hj h
  rwa [Nat.zero_add] at this
/-- eight words -/
def W8:={ l:List UInt32 // l.length=8 }
instance:DecidableEq W8:=inferInstanceAs (DecidableEq { l:List UInt32 // l.length=8 })
def W8.zero:W8:=⟨List.replicate 8 0,rfl⟩
def w8C (r:W8):List Value:=wC r.1
theorem w8C_len (r:W8):(w8C r).length=8:=by unfold w8C;rw [wC_len];exact r.2
theorem w8C_take (r:W8) (X:List Value):(w8C r++X).take 8=w8C r:=by
  rw [List.take_append_of_le_length (by rw [w8C_len];exact Nat.le_refl _),List.take_of_length_le (by rw [w8C_len];exact Nat.le_refl _)]
theorem w8C_take' (r:W8):(w8C r).take 8=w8C r:=List.take_of_length_le (by rw [w8C_len];exact Nat.le_refl _)
theorem w8C_one (r:W8):∀ v∈w8C r,v.oneCell'=true:=wC_one r.1
/-- sixteen bytes -/
def Tag:={ l:List UInt8 // l.length=16 }
instance:DecidableEq Tag:=inferInstanceAs (DecidableEq { l:List UInt8 // l.length=16 })
def Tag.zero:Tag:=⟨List.replicate 16 0,rfl⟩
def tagC (r:Tag):List Value:=r.1.map fun b=>.int .u8 (b.toNat:Int)
theorem tagC_len (r:Tag):(tagC r).length=16:=by simp [tagC,r.2]
theorem tagC_take' (r:Tag):(tagC r).take 16=tagC r:=List.take_of_length_le (by rw [tagC_len];exact Nat.le_refl _)
theorem tagC_one (r:Tag):∀ v∈tagC r,v.oneCell'=true:=fun v hv=>by
  obtain ⟨b,_,rfl⟩:=List.mem_map.1 hv
  rfl
structure St where
  w:W8
  rest:SlV
  size:Nat
  deriving DecidableEq
def St.zero:St:=⟨W8.zero,⟨none,0,0⟩,0⟩
def stC (v:St):List Value:=w8C v.w++([SlV.v v.rest]++([.int .u64 (v.size:Int)]))
theorem stC_len (v:St):(stC v).length=10:=by simp [stC,w8C_len]
theorem stC_take' (v:St):(stC v).take 10=stC v:=List.take_of_length_le (by rw [stC_len];exact Nat.le_refl _)
theorem stC_ta (v:St):((stC v).drop 0).take 10=stC v:=stC_take' v
theorem stC_one (v:St):∀ u∈stC v,u.oneCell'=true:=fun u hu=>by
  simp only [stC,List.mem_append,List.mem_singleton] at hu
  rcases hu with h | h | h
  · exact w8C_one _ u h
  · subst h;rfl
  · subst h;rfl
def encSt:Enc St:=⟨stC,10,stC_len,stC_one,by omega⟩
theorem stC_d0 (v:St):(stC v).drop 0=w8C v.w++([SlV.v v.rest]++([.int .u64 (v.size:Int)])):=rfl
theorem stC_f0 (v:St):((stC v).drop 0).take 8=w8C v.w:=by
  rw [stC_d0]
  exact w8C_take _ _
theorem stC_af0 (v:St):((stC v).toArray.toList.drop 0).take 8=w8C v.w:=stC_f0 v
theorem stC_d8 (v:St):(stC v).drop 8=[SlV.v v.rest]++([.int .u64 (v.size:Int)]):=by
  simp only [stC,List.drop_append,List.length_append,w8C_len,List.length_singleton,List.length_cons,List.length_nil]
  have ew8:∀ r:W8,(w8C r).drop 8=[]:=fun r=>List.drop_eq_nil_of_le (by rw [w8C_len];exact Nat.le_refl _)
  simp [ew8,List.drop_eq_nil_of_le,w8C_len]
theorem stC_l8 (v:St):(stC v)[8]? = some (SlV.v v.rest):=by
  have h:=stC_d8 v
  have h2:((stC v).drop 8)[0]? = some (SlV.v v.rest):=by rw [h];rfl
  rwa [List.getElem?_drop] at h2
theorem stC_a8 (v:St):(stC v).toArray[8]? = some (SlV.v v.rest):=by
  rw [List.getElem?_toArray];exact stC_l8 v
theorem stC_s8 (v:St) (x:SlV):(stC v).toArray.setIfInBounds 8 (SlV.v x)=(stC { v with rest:=x }).toArray:=by
  apply Array.toList_inj.1
  rw [Array.toList_setIfInBounds]
  show (stC v).set 8 _=stC _
  unfold stC
  simp [List.set_append,w8C_len]
theorem stC_d9 (v:St):(stC v).drop 9=[.int .u64 (v.size:Int)]:=by
  simp only [stC,List.drop_append,List.length_append,w8C_len,List.length_singleton,List.length_cons,List.length_nil]
  have ew8:∀ r:W8,(w8C r).drop 8=[]:=fun r=>List.drop_eq_nil_of_le (by rw [w8C_len];exact Nat.le_refl _)
  simp [ew8,List.drop_eq_nil_of_le,w8C_len]
theorem stC_l9 (v:St):(stC v)[9]? = some (.int .u64 (v.size:Int)):=by
  have h:=stC_d9 v
  have h2:((stC v).drop 9)[0]? = some (.int .u64 (v.size:Int)):=by rw [h];rfl
  rwa [List.getElem?_drop] at h2
theorem stC_a9 (v:St):(stC v).toArray[9]? = some (.int .u64 (v.size:Int)):=by
  rw [List.getElem?_toArray];exact stC_l9 v
theorem stC_s9 (v:St) (x:Nat):(stC v).toArray.setIfInBounds 9 (.int .u64 (x:Int))=(stC { v with size:=x }).toArray:=by
  apply Array.toList_inj.1
  rw [Array.toList_setIfInBounds]
  show (stC v).set 9 _=stC _
  unfold stC
  simp [List.set_append,w8C_len]
theorem stC_p0 (v:St) (x:W8):(stC v).take 0++(w8C x)++(stC v).drop 8=stC { v with w:=x }:=by
  unfold stC
  simp [List.take_append,List.drop_append,w8C_len,List.take_of_length_le,List.drop_eq_nil_of_le]
theorem stC_b0 (v:St) (x:W8) (r:List (Nat×Value)):fill2 [(0,8),(8,1),(9,1)] (stC v) ((0,.agg (w8C x).toArray)::r)=fill2 [(0,8),(8,1),(9,1)] (stC { v with w:=x }) r:=congrArg (fun q=>fill2 [(0,8),(8,1),(9,1)] q r) (stC_p0 v x)
structure Msg where
  kind:Int
  slot:Int
  target:Root
  member:Int
  body:Nat
  bits:SlV
  tag:Tag
  deriving DecidableEq
def Msg.zero:Msg:=⟨0,0,Root.zero,0,0,⟨none,0,0⟩,Tag.zero⟩
def msgC (v:Msg):List Value:=[.int .i64 v.kind]++([.int .i64 v.slot]++(rootC v.target++([.int .i64 v.member]++([.int .u64 (v.body:Int)]++([SlV.v v.bits]++(tagC v.tag))))))
theorem msgC_len (v:Msg):(msgC v).length=53:=by simp [msgC,rootC_len,tagC_len]
theorem msgC_take' (v:Msg):(msgC v).take 53=msgC v:=List.take_of_length_le (by rw [msgC_len];exact Nat.le_refl _)
theorem msgC_ta (v:Msg):((msgC v).drop 0).take 53=msgC v:=msgC_take' v
theorem msgC_one (v:Msg):∀ u∈msgC v,u.oneCell'=true:=fun u hu=>by
  simp only [msgC,List.mem_append,List.mem_singleton] at hu
  rcases hu with h | h | h | h | h | h | h
  · subst h;rfl
  · subst h;rfl
  · exact rootC_one _ u h
  · subst h;rfl
  · subst h;rfl
  · subst h;rfl
  · exact tagC_one _ u h
def encMsg:Enc Msg:=⟨msgC,53,msgC_len,msgC_one,by omega⟩
theorem msgC_d0 (v:Msg):(msgC v).drop 0=[.int .i64 v.kind]++([.int .i64 v.slot]++(rootC v.target++([.int .i64 v.member]++([.int .u64 (v.body:Int)]++([SlV.v v.bits]++(tagC v.tag)))))):=rfl
theorem msgC_l0 (v:Msg):(msgC v)[0]? = some (.int .i64 v.kind):=by
  have h:=msgC_d0 v
  have h2:((msgC v).drop 0)[0]? = some (.int .i64 v.kind):=by rw [h];rfl
  rwa [List.getElem?_drop] at h2
theorem msgC_a0 (v:Msg):(msgC v).toArray[0]? = some (.int .i64 v.kind):=by
  rw [List.getElem?_toArray];exact msgC_l0 v
theorem msgC_d1 (v:Msg):(msgC v).drop 1=[.int .i64 v.slot]++(rootC v.target++([.int .i64 v.member]++([.int .u64 (v.body:Int)]++([SlV.v v.bits]++(tagC v.tag))))):=rfl
theorem msgC_l1 (v:Msg):(msgC v)[1]? = some (.int .i64 v.slot):=by
  have h:=msgC_d1 v
  have h2:((msgC v).drop 1)[0]? = some (.int .i64 v.slot):=by rw [h];rfl
  rwa [List.getElem?_drop] at h2
theorem msgC_a1 (v:Msg):(msgC v).toArray[1]? = some (.int .i64 v.slot):=by
  rw [List.getElem?_toArray];exact msgC_l1 v
theorem msgC_d2 (v:Msg):(msgC v).drop 2=rootC v.target++([.int .i64 v.member]++([.int .u64 (v.body:Int)]++([SlV.v v.bits]++(tagC v.tag)))):=rfl
theorem msgC_f2 (v:Msg):((msgC v).drop 2).take 32=rootC v.target:=by
  rw [msgC_d2]
  exact rootC_take _ _
theorem msgC_af2 (v:Msg):((msgC v).toArray.toList.drop 2).take 32=rootC v.target:=msgC_f2 v
theorem msgC_d34 (v:Msg):(msgC v).drop 34=[.int .i64 v.member]++([.int .u64 (v.body:Int)]++([SlV.v v.bits]++(tagC v.tag))):=by
  simp only [msgC,List.drop_append,List.length_append,rootC_len,tagC_len,List.length_singleton,List.length_cons,List.length_nil]
  have eroot:∀ r:Root,(rootC r).drop 32=[]:=fun r=>List.drop_eq_nil_of_le (by rw [rootC_len];exact Nat.le_refl _)
  have etag:∀ r:Tag,(tagC r).drop 16=[]:=fun r=>List.drop_eq_nil_of_le (by rw [tagC_len];exact Nat.le_refl _)
  simp [eroot,etag,List.drop_eq_nil_of_le,rootC_len,tagC_len]
theorem msgC_l34 (v:Msg):(msgC v)[34]? = some (.int .i64 v.member):=by
  have h:=msgC_d34 v
  have h2:((msgC v).drop 34)[0]? = some (.int .i64 v.member):=by rw [h];rfl
  rwa [List.getElem?_drop] at h2
theorem msgC_a34 (v:Msg):(msgC v).toArray[34]? = some (.int .i64 v.member):=by
  rw [List.getElem?_toArray];exact msgC_l34 v
theorem msgC_s34 (v:Msg) (x:Int):(msgC v).toArray.setIfInBounds 34 (.int .i64 x)=(msgC { v with member:=x }).toArray:=by
  apply Array.toList_inj.1
  rw [Array.toList_setIfInBounds]
  show (msgC v).set 34 _=msgC _
  unfold msgC
  simp [List.set_append,rootC_len,tagC_len]
theorem msgC_d35 (v:Msg):(msgC v).drop 35=[.int .u64 (v.body:Int)]++([SlV.v v.bits]++(tagC v.tag)):=by
  simp only [msgC,List.drop_append,List.length_append,rootC_len,tagC_len,List.length_singleton,List.length_cons,List.length_nil]
  have eroot:∀ r:Root,(rootC r).drop 32=[]:=fun r=>List.drop_eq_nil_of_le (by rw [rootC_len];exact Nat.le_refl _)
  have etag:∀ r:Tag,(tagC r).drop 16=[]:=fun r=>List.drop_eq_nil_of_le (by rw [tagC_len];exact Nat.le_refl _)
  simp [eroot,etag,List.drop_eq_nil_of_le,rootC_len,tagC_len]
theorem msgC_l35 (v:Msg):(msgC v)[35]? = some (.int .u64 (v.body:Int)):=by
  have h:=msgC_d35 v
  have h2:((msgC v).drop 35)[0]? = some (.int .u64 (v.body:Int)):=by rw [h];rfl
  rwa [List.getElem?_drop] at h2
theorem msgC_a35 (v:Msg):(msgC v).toArray[35]? = some (.int .u64 (v.body:Int)):=by
  rw [List.getElem?_toArray];exact msgC_l35 v
theorem msgC_s35 (v:Msg) (x:Nat):(msgC v).toArray.setIfInBounds 35 (.int .u64 (x:Int))=(msgC { v with body:=x }).toArray:=by
  apply Array.toList_inj.1
  rw [Array.toList_setIfInBounds]
  show (msgC v).set 35 _=msgC _
  unfold msgC
  simp [List.set_append,rootC_len,tagC_len]
theorem msgC_d36 (v:Msg):(msgC v).drop 36=[SlV.v v.bits]++(tagC v.tag):=by
  simp only [msgC,List.drop_append,List.length_append,rootC_len,tagC_len,List.length_singleton,List.length_cons,List.length_nil]
  have eroot:∀ r:Root,(rootC r).drop 32=[]:=fun r=>List.drop_eq_nil_of_le (by rw [rootC_len];exact Nat.le_refl _)
  have etag:∀ r:Tag,(tagC r).drop 16=[]:=fun r=>List.drop_eq_nil_of_le (by rw [tagC_len];exact Nat.le_refl _)
  simp [eroot,etag,List.drop_eq_nil_of_le,rootC_len,tagC_len]
theorem msgC_l36 (v:Msg):(msgC v)[36]? = some (SlV.v v.bits):=by
  have h:=msgC_d36 v
  have h2:((msgC v).drop 36)[0]? = some (SlV.v v.bits):=by rw [h];rfl
  rwa [List.getElem?_drop] at h2
theorem msgC_a36 (v:Msg):(msgC v).toArray[36]? = some (SlV.v v.bits):=by
  rw [List.getElem?_toArray];exact msgC_l36 v
theorem msgC_s36 (v:Msg) (x:SlV):(msgC v).toArray.setIfInBounds 36 (SlV.v x)=(msgC { v with bits:=x }).toArray:=by
  apply Array.toList_inj.1
  rw [Array.toList_setIfInBounds]
  show (msgC v).set 36 _=msgC _
  unfold msgC
  simp [List.set_append,rootC_len,tagC_len]
theorem msgC_d37 (v:Msg):(msgC v).drop 37=tagC v.tag:=by
  simp only [msgC,List.drop_append,List.length_append,rootC_len,tagC_len,List.length_singleton,List.length_cons,List.length_nil]
  have eroot:∀ r:Root,(rootC r).drop 32=[]:=fun r=>List.drop_eq_nil_of_le (by rw [rootC_len];exact Nat.le_refl _)
  have etag:∀ r:Tag,(tagC r).drop 16=[]:=fun r=>List.drop_eq_nil_of_le (by rw [tagC_len];exact Nat.le_refl _)
  simp [eroot,etag,List.drop_eq_nil_of_le,rootC_len,tagC_len]
theorem msgC_f37 (v:Msg):((msgC v).drop 37).take 16=tagC v.tag:=by
  rw [msgC_d37]
  exact tagC_take' _
theorem msgC_af37 (v:Msg):((msgC v).toArray.toList.drop 37).take 16=tagC v.tag:=msgC_f37 v
theorem msgC_p0 (v:Msg) (x:Int):(msgC v).take 0++([.int .i64 x])++(msgC v).drop 1=msgC { v with kind:=x }:=by
  unfold msgC
  simp [List.take_append,List.drop_append,rootC_len,tagC_len,List.take_of_length_le,List.drop_eq_nil_of_le]
theorem msgC_b0 (v:Msg) (x:Int) (r:List (Nat×Value)):fill2 [(0,1),(1,1),(2,32),(34,1),(35,1),(36,1),(37,16)] (msgC v) ((0,.int .i64 x)::r)=fill2 [(0,1),(1,1),(2,32),(34,1),(35,1),(36,1),(37,16)] (msgC { v with kind:=x }) r:=congrArg (fun q=>fill2 [(0,1),(1,1),(2,32),(34,1),(35,1),(36,1),(37,16)] q r) (msgC_p0 v x)
theorem msgC_p1 (v:Msg) (x:Int):(msgC v).take 1++([.int .i64 x])++(msgC v).drop 2=msgC { v with slot:=x }:=by
  unfold msgC
  simp [List.take_append,List.drop_append,rootC_len,tagC_len,List.take_of_length_le,List.drop_eq_nil_of_le]
theorem msgC_b1 (v:Msg) (x:Int) (r:List (Nat×Value)):fill2 [(0,1),(1,1),(2,32),(34,1),(35,1),(36,1),(37,16)] (msgC v) ((1,.int .i64 x)::r)=fill2 [(0,1),(1,1),(2,32),(34,1),(35,1),(36,1),(37,16)] (msgC { v with slot:=x }) r:=congrArg (fun q=>fill2 [(0,1),(1,1),(2,32),(34,1),(35,1),(36,1),(37,16)] q r) (msgC_p1 v x)
theorem msgC_p2 (v:Msg) (x:Root):(msgC v).take 2++(rootC x)++(msgC v).drop 34=msgC { v with target:=x }:=by
  unfold msgC
  simp [List.take_append,List.drop_append,rootC_len,tagC_len,List.take_of_length_le,List.drop_eq_nil_of_le]
theorem msgC_b2 (v:Msg) (x:Root) (r:List (Nat×Value)):fill2 [(0,1),(1,1),(2,32),(34,1),(35,1),(36,1),(37,16)] (msgC v) ((2,.agg (rootC x).toArray)::r)=fill2 [(0,1),(1,1),(2,32),(34,1),(35,1),(36,1),(37,16)] (msgC { v with target:=x }) r:=congrArg (fun q=>fill2 [(0,1),(1,1),(2,32),(34,1),(35,1),(36,1),(37,16)] q r) (msgC_p2 v x)
theorem msgC_p34 (v:Msg) (x:Int):(msgC v).take 34++([.int .i64 x])++(msgC v).drop 35=msgC { v with member:=x }:=by
  unfold msgC
  simp [List.take_append,List.drop_append,rootC_len,tagC_len,List.take_of_length_le,List.drop_eq_nil_of_le]
theorem msgC_b3 (v:Msg) (x:Int) (r:List (Nat×Value)):fill2 [(0,1),(1,1),(2,32),(34,1),(35,1),(36,1),(37,16)] (msgC v) ((3,.int .i64 x)::r)=fill2 [(0,1),(1,1),(2,32),(34,1),(35,1),(36,1),(37,16)] (msgC { v with member:=x }) r:=congrArg (fun q=>fill2 [(0,1),(1,1),(2,32),(34,1),(35,1),(36,1),(37,16)] q r) (msgC_p34 v x)
theorem msgC_p37 (v:Msg) (x:Tag):(msgC v).take 37++(tagC x)++(msgC v).drop 53=msgC { v with tag:=x }:=by
  unfold msgC
  simp [List.take_append,List.drop_append,rootC_len,tagC_len,List.take_of_length_le,List.drop_eq_nil_of_le]
def bC (bs:List UInt8):List Value:=bs.map fun b=>.int .u8 (b.toNat:Int)
theorem bC_len (bs:List UInt8):(bC bs).length=bs.length:=by simp [bC]
theorem bC_one (bs:List UInt8):∀ v∈bC bs,v.oneCell'=true:=fun v hv=>by
  obtain ⟨b,_,rfl⟩:=List.mem_map.1 hv
  rfl
theorem bC_gd {bs:List UInt8} {j:Nat} (h:j<bs.length):(bC bs).toArray[j]? = some (.int .u8 ((bs.getD j 0).toNat:Int)):=by
  simp [bC,List.getD_eq_getElem?_getD,h]
theorem bC_set (bs:List UInt8) (j:Nat) (u:UInt8):(bC bs).toArray.setIfInBounds j (.int .u8 (u.toNat:Int))=(bC (bs.set j u)).toArray:=by
  apply Array.toList_inj.1
  rw [Array.toList_setIfInBounds]
  show (bC bs).set j _=bC _
  simp [bC,List.map_set]
theorem bC_flat (bs:List UInt8):encU8.flat bs=bC bs:=encU8_flat bs
theorem rds_blk {w0:World} {l:List HProp} {α:Type} {E:Enc α} {xs:List α} (i:Nat) {b o:Nat} {cs:Array Value} {t:TypeId} {fr:Nat×Nat} (hl:l[i]? = some (Blk b (.cells cs t fr))) (h:∀ j u,(E.flat xs)[j]? = some u→cs[o+j]? = some u):Rds w0 l E (some ⟨b,o,none⟩) xs:=fun M w s=>by
  obtain ⟨m,s'⟩:=s.front i hl
  refine ⟨fun h=>(by cases h),fun ad ha j u hu=>?_⟩
  cases ha
  have hadd:(⟨b,o,none⟩:Addr).add j=⟨b,o+j,none⟩:=by unfold Addr.add;split<;>simp_all
  rw [hadd,cell_of_row w b (o+j) cs t fr s'.blk]
  exact h j u hu
theorem rds_bytes {w0:World} {l:List HProp} (i:Nat) {b:Nat} {bs:List UInt8} {t:TypeId} {fr:Nat×Nat} (hl:l[i]? = some (Blk b (.cells (bC bs).toArray t fr))):Rds w0 l encU8 (some ⟨b,0,none⟩) bs :=
  rds_blk i hl fun j u hu=>by
    rw [bC_flat] at hu
    rw [Nat.zero_add,List.getElem?_toArray]
    exact hu
theorem rds_root {w0:World} {l:List HProp} (i:Nat) {b:Nat} {r:Root} {t:TypeId} {fr:Nat×Nat} (hl:l[i]? = some (Blk b (.cells (rootC r).toArray t fr))):Rds w0 l encU8 (some ⟨b,0,none⟩) r.1:=rds_bytes (bs:=r.1) i hl
theorem root_len (r:Root):r.1.length=32:=r.2
theorem rootC_gd (r:Root) {i:Nat} (h:i<32):(rootC r).toArray[i]? = some (.int .u8 ((r.1.getD i 0).toNat:Int)):=bC_gd (bs:=r.1) (by rw [r.2];exact h)
theorem tag_len (r:Tag):r.1.length=16:=r.2
theorem tagC_gd (t:Tag) {j:Nat} (h:j<16):(tagC t).toArray[j]? = some (.int .u8 ((t.1.getD j 0).toNat:Int)):=bC_gd (bs:=t.1) (by rw [t.2];exact h)
def encTag:Enc Tag:=⟨tagC,16,tagC_len,tagC_one,by omega⟩
def bytesB (P:Program) (T N:Nat):Bool:=match P.underlying T with
  | some (.array m e)=>u8B P e && (m == N) && (P.cellsOf e == 1) && (P.cellsOf T == N) && (P.info? e).isSome && !(P.eqGuardType P.depth T)
  | _=>false
theorem bytesB_spec {P:Program} {T N:Nat} (h:bytesB P T N=true):∃ e q,P.underlying T=some (.array N e)∧P.underlying e=some (.int .u8)∧P.cellsOf e=1∧P.cellsOf T=N∧P.info? e=some q∧P.eqGuardType P.depth T=false:=by
  unfold bytesB at h
  split at h
  · rename_i m e hu
    simp only [Bool.and_eq_true,beq_iff_eq,Bool.not_eq_true',Option.isSome_iff_exists] at h
    obtain ⟨⟨⟨⟨⟨h1,rfl⟩,h2⟩,h3⟩,q,h4⟩,h5⟩:=h
    unfold u8B at h1
    split at h1
    · exact ⟨e,q,hu,by assumption,h2,h3,h4,h5⟩
    · cases h1
  · cases h
theorem bC_get (bs:List UInt8) (i:Nat) (h:i<bs.length):((bC bs).drop i).take 1=[.int .u8 ((bs.getD i 0).toNat:Int)]:=by
  unfold bC
  rw [←List.map_drop,List.drop_eq_getElem_cons h]
  rw [List.map_cons,List.take_succ_cons,List.take_zero]
  simp only [List.getD_eq_getElem?_getD,List.getElem?_eq_getElem h,Option.getD_some]
theorem run_equalIn_bytes {P:Program} {T N:Nat} (dd:Nat) (hT:bytesB P T N=true) (a b:List UInt8) (ha:a.length=N) (hb:b.length=N) (w:World):(Op.equalIn (dd+2) T (.agg (bC a).toArray) (.agg (bC b).toArray)).run P w=.ok (decide (a=b)) w:=by
  obtain ⟨e,q,hu,he,hc,hcT,hi,hg⟩:=bytesB_spec hT
  have hpk:P.plainKey e=true:=by unfold Program.plainKey;rw [he]
  have key:∀ r:List UInt8,r.length=N→(List.range N).mapM (fun i=>P.keyLits 1 e (((bC r).toArray.toList.drop (i*P.cellsOf e)).take (P.cellsOf e)))=some ((List.range N).map fun i=>[Lit.int .u8 ((r.getD i 0).toNat:Int)]):=fun r hrl=>by
    refine mapM_all _ _ _ fun i hi'=>?_
    have hlt:i<N:=by simpa using hi'
    rw [hc,Nat.mul_one]
    simp only [List.toList_toArray]
    rw [bC_get r i (by omega)]
    generalize r.getD i 0=u
    have hb:=u.toNat_lt
    unfold Program.keyLits
    rw [he]
    simp only [Lit.wf,IntKind.min,IntKind.max,IntKind.signed,IntKind.bits]
    rw [if_pos]
    refine ⟨trivial,?_⟩
    simp
    omega
  obtain ⟨r,hr,hiff⟩:=run_eqItems_plain (P:=P) w dd hpk (bC a).toArray (bC b).toArray (List.range N) _ _ (key a ha) (key b hb)
  have h1:(Op.equalIn (dd+2) T (.agg (bC a).toArray) (.agg (bC b).toArray)).run P w=(Op.eqItems (dd+1) e (P.cellsOf e) (bC a).toArray (bC b).toArray (List.range N)).run P w:=run_equalIn_array w (dd+1) _ _ hu hi
  rw [h1,hr]
  congr 1
  rw [Bool.eq_iff_iff,hiff,decide_eq_true_iff]
  constructor
  · intro h
    apply List.ext_getElem
    · rw [ha,hb]
    · intro i h2 h3
      have hi2:i<N:=by omega
      have h4:=congrArg (fun l:List Lit=>l[i]?) h
      have hfl:∀ g:Nat→Lit,((List.range N).map fun i=>[g i]).flatten=(List.range N).map g:=fun g=>by
        generalize List.range N=l
        induction l with
        | nil=>rfl
        | cons u l ih=>rw [List.map_cons,List.flatten_cons,ih];rfl
      simp only [hfl] at h4
      simp [hi2,List.getD_eq_getElem?_getD,h2,h3] at h4
      exact UInt8.toNat_inj.1 (by omega)
  · intro h
    subst h
    rfl
section
variable {P:Program} {w0 w:World} {n:Nat} {f:Fr} {l l':List HProp} {d:Option Tmp} {ty:TypeId} {pos:String} {aft:Array Edge} {g:Option (Nat×Bool)} {x y z:Operand} {T T':TypeId} {v:Value}
theorem tag_eq (a b:Tag):decide (a=b)=decide (a.1=b.1):=decide_eq_decide.2 ⟨fun h=>by rw [h],fun h=>Subtype.ext h⟩
theorem op_eqtag (a b:Tag) (hT:bytesB P T 16=true) (hx:ev f x=.agg (tagC a).toArray) (hy:ev f y=.agg (tagC b).toArray):OP P w0 n ⟨d,.binOp .eql T x y T',ty,pos,aft,g⟩ f l (.bool (decide (a=b))):=fun M A w r s=>by
  obtain ⟨e,q,hu,he,hc,hcT,hi,hg⟩:=bytesB_spec hT
  have h1:(eqGuard .eql T x y (.agg (tagC a).toArray) (.agg (tagC b).toArray)).run P w=.ok () w:=by
    simp [eqGuard,hg]
  have h2:(Op.equal T (.agg (tagC a).toArray) (.agg (tagC b).toArray)).run P w=.ok (decide (a=b)) w:=by
    rw [tag_eq]
    exact run_equalIn_bytes 9998 hT a.1 b.1 a.2 b.2 w
  simp [execOp,r.eval,hx,hy,h1,binOp,h2]
theorem op_xor8 (X Y:UInt8) (hx:ev f x=.int .u8 (X.toNat:Int)) (hy:ev f y=.int .u8 (Y.toNat:Int)):OP P w0 n ⟨d,.binOp .xor T x y T',ty,pos,aft,g⟩ f l (.int .u8 ((X ^^^ Y).toNat:Int)):=fun M a w r s=>by
  simp only [execOp,r.eval,hx,hy,binOp]
  simp [eqGuard_int,Op.intBits]
  show IntKind.u8.wrap ((X.toNat % 256 ^^^ Y.toNat % 256:Nat):Int)=_
  rw [mod_u8,mod_u8,wrap_u8_nat]
  congr 1
  rw [←UInt8.toNat_xor,UInt8.ofNat_toNat]
/-- copy of a text onto an array of bytes -/
theorem os_copys {as:Array TypeId} {b n1 c1:Nat} {xs:List UInt8} {t:TypeId} {fr:Nat×Nat} (ys:List UInt8) (S U:TypeId) (hS:as[0]? = some S) (hT:slice1B P S=true) (hx:ev f x=.slice (some ⟨b,0,none⟩) n1 c1) (hy:ev f y=.string (B ys))
    (h1:n1≤xs.length) (hf:Free xs.length fr) :
    OS P w0 n ⟨d,.call ⟨.builtin .copy,#[x,y],as⟩,ty,pos,aft,g⟩ f (Blk b (.cells (bC xs).toArray t fr)::l) (fun v l'=>v=.int .i64 ((min ys.length n1:Nat):Int)∧l'=Blk b (.cells (bC (ys.take (min ys.length n1)++xs.drop (min ys.length n1))).toArray t fr)::l):=fun a w r s=>by
  unfold slice1B at hT
  split at hT
  · rename_i e hu
    split at hT
    · rename_i i hi
      have hs:i.size=1:=by simpa using hT
      have hk:(bC (ys.take (min ys.length n1))).length=min ys.length n1:=by rw [bC_len,List.length_take];omega
      have hst:=run_storeCells_row P b 0 t fr (bC (ys.take (min ys.length n1))) 0 (bC xs).toArray w s.blk (by rw [hk,List.size_toArray,bC_len];omega) (bC_one _) (by rw [List.size_toArray,bC_len];exact hf)
      rw [hk] at hst
      simp only [Nat.add_zero,Nat.zero_add,List.take_zero,List.nil_append] at hst
      have hcs:(bC (ys.take (min ys.length n1))++(bC xs).drop (min ys.length n1))=bC (ys.take (min ys.length n1)++xs.drop (min ys.length n1)):=by simp [bC,List.map_drop]
      have hfc:(Builtin.firstCells 1 (min ys.length n1) (.string (B ys))).run P w=.ok (bC (ys.take (min ys.length n1))).toArray w:=by
        simp [Builtin.firstCells,bC,B]
      have hb:(Builtin.copy_ as ty #[.slice (some ⟨b,0,none⟩) n1 c1,.string (B ys)]).run P w=.ok (.int .i64 ((min ys.length n1:Nat):Int)) (w.setRow b (bC (ys.take (min ys.length n1)++xs.drop (min ys.length n1))).toArray):=by
        simp only [Builtin.copy_,hS]
        simp [run_underlying hu,Builtin.lenOf,sizeOf,typeInfo,hi,hs,B_size]
        rw [show Nat.min ys.length n1=min ys.length n1 from rfl,hfc]
        simp
        simp only [hcs] at hst
        rw [hst]
        simp [goInt]
      have:(execOp a.eval ⟨d,.call ⟨.builtin .copy,#[x,y],as⟩,ty,pos,aft,g⟩).run P w=.ok (.value (.int .i64 ((min ys.length n1:Nat):Int))) (w.setRow b (bC (ys.take (min ys.length n1)++xs.drop (min ys.length n1))).toArray):=by
        have hax:a.eval x=ev f x:=r.eval x
        have hay:a.eval y=ev f y:=r.eval y
        simp [execOp,resolve,invoke,builtin,hax,hay,hx,hy,hb]
      rw [this]
      exact ⟨_,⟨rfl,rfl⟩,s.setRow⟩
    · cases hT
  · cases hT
/-- [16]byte(s): where a slice's first cells lie -/
def s2apB (P:Program) (T:Nat):Option Nat:=match P.underlying T with
  | some (.array n _)=>some n
  | _=>none
theorem op_s2ap {N m c:Nat} {ao:Option Addr} (hT:s2apB P T=some N) (hx:ev f x=.slice ao m c) (hm:N≤m):OP P w0 n ⟨d,.sliceToArrayPointer T x,ty,pos,aft,g⟩ f l (.pointer ao):=fun M a w r s=>by
  unfold s2apB at hT
  split at hT
  · rename_i k e hu
    obtain rfl:=Option.some.inj hT
    have:¬ m<k:=by omega
    simp [execOp,r.eval,hx,Instr.arrayAt,run_underlying hu,this]
  · cases hT
end
section
variable {H:Type} {enc:TypeId×Value→H} {P:Program} {W:World} {t e:TypeId} {r:Reach} {b0:Nat} {v:Value} {d:DataW H} {ps:List MemPlace}
end
theorem tagC_ta (t:Tag):((tagC t).drop 0).take 16=tagC t:=tagC_take' t
section
variable {P:Program} {w0 w:World} {n:Nat} {f:Fr} {l l':List HProp} {d:Option Tmp} {ty:TypeId} {pos:String} {aft:Array Edge} {g:Option (Nat×Bool)} {x y z:Operand} {T T':TypeId} {v:Value}
theorem op_buildt {parts:Array (Nat×Operand)} (hp:parts=#[]) (hB:bytesB P T 16=true) (hz:zeroB P T=some (.agg (tagC Tag.zero).toArray)):OP P w0 n ⟨d,.build T parts,ty,pos,aft,g⟩ f l (.agg (tagC Tag.zero).toArray):=fun M a w r s=>by
  obtain ⟨e,q,hu,he,hc,hcT,hi,hg⟩:=bytesB_spec hB
  subst hp
  obtain ⟨q2,hq,hq2⟩:=Option.bind_eq_some_iff.1 hz
  have hzr:(zeroValue T).run P w=.ok (.agg (tagC Tag.zero).toArray) w:=by simp [zeroValue,typeInfo,hq,hq2]
  have hs:(sizeOf e).run P w=.ok q.size w:=by simp [sizeOf,typeInfo,hi]
  simp [execOp,Instr.build,hzr,run_underlying hu,hs,Instr.fill,Value.cells]
end
open Go.RowKit Go.ChangeShapes
section
variable {H:Type} {enc:TypeId×Value→H}
end
section
variable {H:Type} {enc:TypeId×Value→H} {P:Program} {W:World} {t e:TypeId} {r:Reach} {b0:Nat} {v:Value} {d:DataW H} {ps:List MemPlace}
end
section
variable {P:Program} {w0 w:World} {n:Nat} {f:Fr} {l l':List HProp} {d:Option Tmp} {ty:TypeId} {pos:String} {aft:Array Edge} {g:Option (Nat×Bool)} {x y z:Operand} {T T':TypeId} {v:Value} {A C:Nat}
theorem op_addw64 (hx:ev f x=.int .u64 (A:Int)) (hy:ev f y=.int .u64 (C:Int)):OP P w0 n ⟨d,.binOp .add T x y T',ty,pos,aft,g⟩ f l (.int .u64 (((A+C) % 18446744073709551616:Nat):Int)):=by
  have:=op_addw (P:=P) (w0:=w0) (n:=n) (l:=l) (d:=d) (ty:=ty) (pos:=pos) (aft:=aft) (g:=g) (T:=T) (T':=T') hx hy
  rwa [←Int.natCast_add,wrap_u64_nat] at this
theorem op_mulw64 (hx:ev f x=.int .u64 (A:Int)) (hy:ev f y=.int .u64 (C:Int)):OP P w0 n ⟨d,.binOp .mul T x y T',ty,pos,aft,g⟩ f l (.int .u64 (((A*C) % 18446744073709551616:Nat):Int)):=by
  have:=op_mulw (P:=P) (w0:=w0) (n:=n) (l:=l) (d:=d) (ty:=ty) (pos:=pos) (aft:=aft) (g:=g) (T:=T) (T':=T') hx hy
  rwa [←Int.natCast_mul,wrap_u64_nat] at this
theorem op_shlw64 {m:Nat} {k':IntKind} (hx:ev f x=.int .u64 (A:Int)) (hy:ev f y=.int k' (m:Int)) (hm:m≤64):OP P w0 n ⟨d,.binOp .shl T x y T',ty,pos,aft,g⟩ f l (.int .u64 (((A*2 ^ m) % 18446744073709551616:Nat):Int)):=fun M a w r s=>by
  have h1:¬ ((m:Int)<0):=by omega
  have h2:min m IntKind.u64.bits=m:=Nat.min_eq_left hm
  have h3:IntKind.u64.wrap ((A:Int)*2 ^ m)=(((A*2 ^ m) % 18446744073709551616:Nat):Int):=by
    rw [←wrap_u64_nat];simp
  simp [execOp,r.eval,hx,hy,eqGuard_int,binOp,Op.shift,h1,h2,h3]
theorem op_andlo (hx:ev f x=.int .u64 (A:Int)) (hA:A<18446744073709551616) (hy:ev f y=.int .u64 4294967295):OP P w0 n ⟨d,.binOp .and T x y T',ty,pos,aft,g⟩ f l (.int .u64 ((A % 4294967296:Nat):Int)):=fun M a w r s=>by
  simp only [execOp,r.eval,hx,hy,binOp]
  simp [eqGuard_int,Op.intBits]
  show IntKind.u64.wrap ((A % 18446744073709551616 &&& 4294967295:Nat):Int)=_
  rw [Nat.mod_eq_of_lt hA,show (4294967295:Nat)=2 ^ 32-1 from rfl,Nat.and_two_pow_sub_one_eq_mod]
  have h:A % 2 ^ 32<4294967296:=Nat.mod_lt _ (by decide)
  rw [wrap_u64 (by omega) (by omega)]
  rfl
theorem op_conv64m {a:Int} (m:Nat) (hu:P.underlying T'=some (.int .u64)) (hT:(P.underlying T).isSome=true) {k:IntKind} (hx:ev f x=.int k a) (ha:a=(m:Int)) (hm:m<18446744073709551616):OP P w0 n ⟨d,.convert T T' x,ty,pos,aft,g⟩ f l (.int .u64 (m:Int)):=by
  subst ha
  exact op_conv64 hu hT hx hm
theorem op_mul32 (X Y:UInt32) (hx:ev f x=.int .u32 (X.toNat:Int)) (hy:ev f y=.int .u32 (Y.toNat:Int)):OP P w0 n ⟨d,.binOp .mul T x y T',ty,pos,aft,g⟩ f l (.int .u32 ((X*Y).toNat:Int)):=by
  have:=op_mulw (P:=P) (w0:=w0) (n:=n) (l:=l) (d:=d) (ty:=ty) (pos:=pos) (aft:=aft) (g:=g) (T:=T) (T':=T') hx hy
  rw [←Int.natCast_mul,wrap_u32_of,UInt32.ofNat_mul,UInt32.ofNat_toNat,UInt32.ofNat_toNat] at this
  exact this
/-- math/bits.Add64,which has no body -/
theorem op_add64x {k:Nat} {fn:Func} {as:Array TypeId} (hf:P.funcs[k]? = some fn) (hname:(fn.name == "runtime.NumGoroutine")=false) (hb:fn.body.isNone=true) (hn:Extern.findNext fn=none) (he:Extern.find fn=some add64Entry)
    (hx:ev f x=.int .u64 (A:Int)) (hy:ev f y=.int .u64 (C:Int)) (hz:ev f z=.int .u64 0):OP P w0 n ⟨d,.call ⟨.value (.func k),#[x,y,z],as⟩,ty,pos,aft,g⟩ f l (.tuple #[.int .u64 (((A+C) % 18446744073709551616:Nat):Int),.int .u64 (((A+C) / 18446744073709551616:Nat):Int)]):=fun M a w r s=>by
  have hr:=run_callFunc_extern (P:=P) hf hname hb hn he #[.int .u64 (A:Int),.int .u64 (C:Int),.int .u64 0] w
  rw [run_add64 (P:=P) (A:Int) (C:Int) 0 (by omega) (by omega) (by omega) (by omega) w] at hr
  have hax:a.eval x=.int .u64 (A:Int):=(r.eval x).trans hx
  have hay:a.eval y=.int .u64 (C:Int):=(r.eval y).trans hy
  have haz:a.eval z=.int .u64 0:=(r.eval z).trans hz
  have hfu:a.eval (.func k)=.func (.func k) #[] #[]:=rfl
  simp [execOp,resolve,Deferred.ofValue,invoke,hfu,hax,hay,haz,hr]
end
theorem rds_fld {w0:World} {l:List HProp} (i o n:Nat) {b:Nat} {cs:Array Value} {t:TypeId} {fr:Nat×Nat} {bs:List UInt8} (hl:l[i]? = some (Blk b (.cells cs t fr))) (h:(cs.toList.drop o).take n=bC bs):Rds w0 l encU8 (some ⟨b,o,none⟩) bs :=
  rds_blk i hl fun j u hu=>by
    rw [bC_flat,←h] at hu
    obtain ⟨hj,_⟩:=List.getElem?_eq_some_iff.1 hu
    have hj':j<n:=by simp at hj;omega
    rw [List.getElem?_take_of_lt hj',List.getElem?_drop] at hu
    simpa using hu
def overB (r ys:List UInt8) (k:Nat):List UInt8:=ys.take k++r.drop k
def Root.over (r:Root) (ys:List UInt8):Root:=⟨overB r.1 ys (min ys.length 32),by unfold overB;rw [List.length_append,List.length_take,List.length_drop,r.2];omega⟩
def Tag.over (r:Tag) (ys:List UInt8):Tag:=⟨overB r.1 ys (min ys.length 16),by unfold overB;rw [List.length_append,List.length_take,List.length_drop,r.2];omega⟩
section
variable {P:Program} {w0 w:World} {n:Nat} {f:Fr} {l l':List HProp} {d:Option Tmp} {ty:TypeId} {pos:String} {aft:Array Edge} {g:Option (Nat×Bool)} {x y z:Operand} {T T':TypeId} {v:Value}
/-- copy of a text onto an array of bytes that lies within a block -/
theorem os_copyf {as:Array TypeId} {b o n1 c1:Nat} {r:List UInt8} {cs:Array Value} {t:TypeId} {fr:Nat×Nat} (ys:List UInt8) (L:List Value) (S:TypeId) (hS:as[0]? = some S) (hT:slice1B P S=true) (hx:ev f x=.slice (some ⟨b,o,none⟩) n1 c1) (hy:ev f y=.string (B ys))
    (h1:r.length=n1) (hr:(cs.toList.drop o).take n1=bC r) (hsz:o+n1≤cs.size) (hf:Free cs.size fr) (hL:cs.toList.take o++bC (overB r ys (min ys.length n1))++cs.toList.drop (o+n1)=L) :
    OS P w0 n ⟨d,.call ⟨.builtin .copy,#[x,y],as⟩,ty,pos,aft,g⟩ f (Blk b (.cells cs t fr)::l) (fun v l'=>v=.int .i64 ((min ys.length n1:Nat):Int)∧l'=Blk b (.cells L.toArray t fr)::l):=fun a w r2 s=>by
  unfold slice1B at hT
  split at hT
  · rename_i e hu
    split at hT
    · rename_i i hi
      have hs:i.size=1:=by simpa using hT
      have hk:(bC (ys.take (min ys.length n1))).length=min ys.length n1:=by rw [bC_len,List.length_take];omega
      have hst:=run_storeCells_row P b o t fr (bC (ys.take (min ys.length n1))) 0 cs w s.blk (by rw [hk];omega) (bC_one _) hf
      rw [hk] at hst
      simp only [Nat.add_zero] at hst
      have hcs:(cs.toList.take o++bC (ys.take (min ys.length n1))++cs.toList.drop (o+min ys.length n1))=L:=by
        rw [←hL]
        have e1:cs.toList.drop (o+min ys.length n1)=bC (r.drop (min ys.length n1))++cs.toList.drop (o+n1):=by
          have e2:cs.toList.drop o=bC r++cs.toList.drop (o+n1):=by
            rw [←hr,←List.drop_drop,List.take_append_drop]
          rw [←List.drop_drop,e2,List.drop_append_of_le_length (by rw [bC_len,h1];omega)]
          simp [bC,List.map_drop]
        rw [e1]
        unfold overB
        simp [bC]
      have hfc:(Builtin.firstCells 1 (min ys.length n1) (.string (B ys))).run P w=.ok (bC (ys.take (min ys.length n1))).toArray w:=by
        simp [Builtin.firstCells,bC,B]
      have hb:(Builtin.copy_ as ty #[.slice (some ⟨b,o,none⟩) n1 c1,.string (B ys)]).run P w=.ok (.int .i64 ((min ys.length n1:Nat):Int)) (w.setRow b L.toArray):=by
        rw [hcs] at hst
        simp only [Builtin.copy_,hS]
        simp [run_underlying hu,Builtin.lenOf,sizeOf,typeInfo,hi,hs,B_size]
        rw [show Nat.min ys.length n1=min ys.length n1 from rfl,hfc]
        simp
        rw [hst]
        simp [goInt]
      have:(execOp a.eval ⟨d,.call ⟨.builtin .copy,#[x,y],as⟩,ty,pos,aft,g⟩).run P w=.ok (.value (.int .i64 ((min ys.length n1:Nat):Int))) (w.setRow b L.toArray):=by
        have hax:a.eval x=ev f x:=r2.eval x
        have hay:a.eval y=ev f y:=r2.eval y
        simp [execOp,resolve,invoke,builtin,hax,hay,hx,hy,hb]
      rw [this]
      exact ⟨_,⟨rfl,rfl⟩,s.setRow⟩
    · cases hT
  · cases hT
end
structure TreeS where
  nodes:List Node
  most:Int
def idxOf (ns:List Node) (r:Root):Option Nat:=ns.findIdx? fun n=>decide (n.root=r)
def TreeS.place (t:TreeS) (r:Root):Int:=match idxOf t.nodes r with | some i=>(i:Int) | none=>-1
def TreeS.node (t:TreeS) (i:Int):Option Node:=if 0≤i then t.nodes[i.toNat]? else none
def nodeNo:Node:=⟨Root.zero,0,-1⟩
def TreeS.add (t:TreeS) (r p:Root) (slot:Int):Int×TreeS :=
  if (idxOf t.nodes r).isSome=true then (4,t)
  else match idxOf t.nodes p with
    | none=>(5,t)
    | some j =>
      if slot≤((t.nodes[j]?).getD nodeNo).slot∨1073741824<slot then (5,t)
      else if t.most≤t.nodes.length then (6,t)
      else (0,{ t with nodes:=t.nodes++[⟨r,slot,(j:Int)⟩] })
def bel (ns:List Node) (a:Nat):Nat→Int→Bool
  | 0,_=>false
  | k+1,i=>if i<a then false else if i=a then true else match ns[i.toNat]? with | some n=>bel ns a k n.parent | none=>false
def TreeS.below (t:TreeS) (o r:Root):Bool:=match idxOf t.nodes o,idxOf t.nodes r with | some a,some i=>bel t.nodes a (i+1) (i:Int) | _,_=>false
def TreeS.kids (t:TreeS) (r:Root):List Root:=match idxOf t.nodes r with | some a=>(t.nodes.filter fun n=>decide (n.parent=(a:Int))).map (·.root) | none=>[]
def TreeS.roots (t:TreeS):List Root:=t.nodes.map (·.root)
def TreeS.new (r:Root) (slot most:Int):TreeS:=⟨[⟨r,slot,-1⟩],most⟩
def atOf (ns:List Node):List (Root×Int):=ns.zipIdx.map fun p=>(p.1.root,(p.2:Int))
/-- every block but the first has an earlier parent,of an earlier slot -/
def Par (ns:List Node):Prop:=∀ i n,ns[i]? = some n→(i=0∧n.parent=-1)∨∃ j m,n.parent=((j:Nat):Int)∧j<i∧ns[j]? = some m∧m.slot<n.slot
structure TreeS.WF (t:TreeS):Prop where
  nd:(t.nodes.map (·.root)).Nodup
  ne:0<t.nodes.length
  m1:1≤t.most
  m2:t.most≤256
  le:(t.nodes.length:Int)≤t.most
  sl:∀ n∈t.nodes,0≤n.slot∧n.slot≤1073741824
  pa:Par t.nodes
section
variable {ns:List Node} {r:Root} {i j a:Nat} {n:Node}
theorem idxOf_some (h:idxOf ns r=some i):∃ n,ns[i]? = some n∧n.root=r:=by
  unfold idxOf at h
  obtain ⟨hi,h1,_⟩:=List.findIdx?_eq_some_iff_getElem.1 h
  exact ⟨ns[i],List.getElem?_eq_getElem hi,by simpa using h1⟩
theorem idxOf_lt (h:idxOf ns r=some i):i<ns.length:=let ⟨_,h1,_⟩:=idxOf_some h;(List.getElem?_eq_some_iff.1 h1).1
theorem idxOf_none:idxOf ns r=none↔∀ n∈ns,n.root≠r:=by
  unfold idxOf
  rw [List.findIdx?_eq_none_iff]
  constructor
  · intro h n hn he
    have:=h n hn
    simp [he] at this
  · intro h n hn
    simpa using h n hn
theorem nodup_get {α:Type} {l:List α} (hd:l.Nodup) {i j:Nat} {x:α} (hi:l[i]? = some x) (hj:l[j]? = some x):i=j :=
  (List.getElem?_inj (List.getElem?_eq_some_iff.1 hi).1 hd).1 (hi.trans hj.symm)
theorem idxOf_get (hd:(ns.map (·.root)).Nodup) (h:ns[i]? = some n):idxOf ns n.root=some i:=by
  cases e:idxOf ns n.root with
  | none=>exact absurd rfl (idxOf_none.1 e n (List.mem_of_getElem? h))
  | some k =>
    obtain ⟨m,h1,h2⟩:=idxOf_some e
    congr 1
    exact nodup_get hd (x:=n.root) (by rw [List.getElem?_map,h1];simp [h2]) (by rw [List.getElem?_map,h];rfl)
theorem idxOf_append {x:Node}:idxOf (ns++[x]) r=match idxOf ns r with | some i=>some i | none=>if x.root=r then some ns.length else none:=by
  unfold idxOf
  rw [List.findIdx?_append]
  cases ns.findIdx? fun n=>decide (n.root=r) with
  | some i=>rfl
  | none =>
    by_cases hx:x.root=r
    · simp [hx,List.findIdx?_cons]
    · simp [hx,List.findIdx?_cons]
theorem atOf_append {x:Node}:atOf (ns++[x])=atOf ns++[(x.root,(ns.length:Int))]:=by
  unfold atOf
  rw [List.zipIdx_append,List.map_append]
  simp
theorem atOf_keys:(atOf ns).map (·.1)=ns.map (·.root):=by
  unfold atOf
  rw [List.map_map]
  have:(fun p:Node×Nat=>p.1.root)=(fun n:Node=>n.root) ∘ Prod.fst:=rfl
  show ns.zipIdx.map (fun p:Node×Nat=>p.1.root)=_
  rw [this,←List.map_map,List.zipIdx_map_fst]
theorem look_at_aux (r:Root):∀ (ns:List Node) (k:Nat),look ((ns.zipIdx k).map fun p=>(p.1.root,(p.2:Int))) r=(idxOf ns r).map fun i=>((k+i:Nat):Int)
  | [],k=>rfl
  | n::ns,k=>by
    have ih:=look_at_aux r ns (k+1)
    unfold look idxOf at ih ⊢
    rw [List.zipIdx_cons,List.map_cons]
    by_cases h:n.root=r
    · simp [h,List.findIdx?_cons]
    · rw [List.find?_cons_of_neg (by simpa using h),ih,List.findIdx?_cons]
      have:decide (n.root=r)=false:=by simpa using h
      rw [this]
      simp only [Bool.false_eq_true,if_false,Option.map_map]
      congr 1
      funext x
      show ((k+1+x:Nat):Int)=((k+(x+1):Nat):Int)
      omega
theorem look_at_ (ns:List Node) (r:Root):look (atOf ns) r=(idxOf ns r).map fun i:Nat=>(i:Int):=by
  have:=look_at_aux r ns 0
  simp only [Nat.zero_add] at this
  exact this
theorem ins_at {x:Node} (h:idxOf ns x.root=none):ins (atOf ns) x.root (ns.length:Int)=atOf (ns++[x]):=by
  rw [ins_none (by rw [look_at_,h];rfl),atOf_append]
theorem Par.append {ns:List Node} (h:Par ns) {x m:Node} {j:Nat} (hj:ns[j]? = some m) (hp:x.parent=(j:Int)) (hs:m.slot<x.slot):Par (ns++[x]):=by
  intro i n hi
  have hjl:=(List.getElem?_eq_some_iff.1 hj).1
  by_cases hl:i<ns.length
  · rw [List.getElem?_append_left hl] at hi
    rcases h i n hi with h1 | ⟨j',m',h1,h2,h3,h4⟩
    · exact .inl h1
    · exact .inr ⟨j',m',h1,h2,by rw [List.getElem?_append_left (by omega)];exact h3,h4⟩
  · rw [List.getElem?_append_right (by omega)] at hi
    have hi0:i-ns.length=0:=by
      have:=(List.getElem?_eq_some_iff.1 hi).1
      simp at this
      omega
    rw [hi0] at hi
    simp at hi
    subst hi
    exact .inr ⟨j,m,hp,by omega,by rw [List.getElem?_append_left hjl];exact hj,hs⟩
end
theorem TreeS.WF.new {r:Root} {slot most:Int} (h1:1≤most) (h2:most≤256) (h3:0≤slot) (h4:slot≤1073741824):(TreeS.new r slot most).WF :=
  ⟨by simp [TreeS.new],by simp [TreeS.new],h1,h2,by simp [TreeS.new];omega,by simp [TreeS.new];omega,fun i n h=>by
    cases i with
    | zero=>simp [TreeS.new] at h;subst h;exact .inl ⟨rfl,rfl⟩
    | succ i=>simp [TreeS.new] at h⟩
/-- the ways of an addition -/
theorem TreeS.add_cases (t:TreeS) (r p:Root) (slot:Int) :
    ((idxOf t.nodes r).isSome=true∧t.add r p slot=(4,t)) ∨
    (idxOf t.nodes r=none∧((idxOf t.nodes p=none∧t.add r p slot=(5,t)) ∨
      ∃ j m,idxOf t.nodes p=some j∧t.nodes[j]? = some m ∧
        (((slot≤m.slot∨1073741824<slot)∧t.add r p slot=(5,t)) ∨
          (m.slot<slot∧slot≤1073741824∧((t.most≤t.nodes.length∧t.add r p slot=(6,t)) ∨
            ((t.nodes.length:Int)<t.most∧t.add r p slot=(0,{ t with nodes:=t.nodes++[⟨r,slot,(j:Int)⟩] }))))))):=by
  unfold TreeS.add
  by_cases h:(idxOf t.nodes r).isSome=true
  · exact .inl ⟨h,by rw [if_pos h]⟩
  · right
    rw [if_neg h]
    have h0:idxOf t.nodes r=none:=by cases e:idxOf t.nodes r<;>simp_all
    refine ⟨h0,?_⟩
    cases hp:idxOf t.nodes p with
    | none=>exact .inl ⟨rfl,rfl⟩
    | some j =>
      right
      obtain ⟨m,hm,_⟩:=idxOf_some hp
      refine ⟨j,m,rfl,hm,?_⟩
      simp only [hm,Option.getD_some]
      by_cases hs:slot≤m.slot∨1073741824<slot
      · exact .inl ⟨hs,by rw [if_pos hs]⟩
      · right
        rw [if_neg hs]
        refine ⟨by omega,by omega,?_⟩
        by_cases hf:t.most≤t.nodes.length
        · exact .inl ⟨hf,by rw [if_pos hf]⟩
        · exact .inr ⟨by omega,by rw [if_neg hf]⟩
theorem TreeS.WF.add {t:TreeS} (h:t.WF) (r p:Root) (slot:Int):(t.add r p slot).2.WF:=by
  rcases t.add_cases r p slot with ⟨_,e⟩ | ⟨h0,⟨_,e⟩ | ⟨j,m,hp,hm,⟨_,e⟩ | ⟨h1,h2,⟨_,e⟩ | ⟨h3,e⟩⟩⟩⟩
  · rw [e];exact h
  · rw [e];exact h
  · rw [e];exact h
  · rw [e];exact h
  · rw [e]
    have hsm:=h.sl m (List.mem_of_getElem? hm)
    refine { h with nd:=?_,ne:=by simp,le:=by simp;omega,sl:=?_,pa:=h.pa.append hm rfl h1 }
    · simp only [List.map_append,List.map_cons,List.map_nil]
      rw [List.nodup_append]
      refine ⟨h.nd,by simp,fun a ha b hb=>?_⟩
      simp at hb
      subst hb
      obtain ⟨n,hn,rfl⟩:=List.mem_map.1 ha
      exact idxOf_none.1 h0 n hn
    · intro n hn
      rcases List.mem_append.1 hn with hn | hn
      · exact h.sl n hn
      · simp at hn;subst hn;exact ⟨by dsimp only;omega,h2⟩
theorem TreeS.add_most (t:TreeS) (r p:Root) (slot:Int):(t.add r p slot).2.most=t.most∧∃ xs,(t.add r p slot).2.nodes=t.nodes++xs:=by
  rcases t.add_cases r p slot with ⟨_,e⟩ | ⟨h0,⟨_,e⟩ | ⟨j,m,hp,hm,⟨_,e⟩ | ⟨h1,h2,⟨_,e⟩ | ⟨h3,e⟩⟩⟩⟩<;>rw [e]<;>first | exact ⟨rfl,[],(List.append_nil _).symm⟩ | exact ⟨rfl,_,rfl⟩
inductive UpTo (ns:List Node):Nat→Nat→Prop
  | refl {i:Nat}:i<ns.length→UpTo ns i i
  | step {i j k:Nat} {n:Node}:ns[i]? = some n→n.parent=(j:Int)→UpTo ns j k→UpTo ns i k
section
variable {ns:List Node} {i j k a:Nat} {n:Node}
theorem UpTo.le (hp:Par ns) (h:UpTo ns i k):k≤i:=by
  induction h with
  | refl _=>exact Nat.le_refl _
  | step h1 h2 _ ih =>
    rcases hp _ _ h1 with ⟨_,h3⟩ | ⟨j',m,h3,h4,_,_⟩
    · omega
    · omega
theorem UpTo.trans (h:UpTo ns i j) (h':UpTo ns j k):UpTo ns i k:=by
  induction h with
  | refl _=>exact h'
  | step h1 h2 _ ih=>exact .step h1 h2 (ih h')
theorem UpTo.zero (hp:Par ns):∀ i,i<ns.length→UpTo ns i 0:=by
  intro i
  induction i using Nat.strongRecOn with
  | _ i ih =>
    intro hi
    have hg:ns[i]? = some ns[i]:=List.getElem?_eq_getElem hi
    rcases hp i _ hg with ⟨rfl,_⟩ | ⟨j,m,h1,h2,h3,_⟩
    · exact .refl hi
    · exact .step hg h1 (ih j h2 (by omega))
theorem UpTo.append {xs:List Node} (h:UpTo ns i k):UpTo (ns++xs) i k:=by
  induction h with
  | refl h=>exact .refl (by simp;omega)
  | step h1 h2 _ ih=>exact .step (by rw [List.getElem?_append_left (List.getElem?_eq_some_iff.1 h1).1];exact h1) h2 ih
theorem bel_fuel (hp:Par ns) (a:Nat):∀ (k k' i:Nat),i<k→i<k'→bel ns a k (i:Int)=bel ns a k' (i:Int):=by
  intro k
  induction k with
  | zero=>intro k' i h;omega
  | succ k ih =>
    intro k' i h1 h2
    obtain ⟨k',rfl⟩:∃ q,k'=q+1:=⟨k'-1,by omega⟩
    unfold bel
    simp only [Int.toNat_natCast]
    by_cases h3:(i:Int)<a
    · rw [if_pos h3,if_pos h3]
    · rw [if_neg h3,if_neg h3]
      by_cases h4:(i:Int)=a
      · rw [if_pos h4,if_pos h4]
      · rw [if_neg h4,if_neg h4]
        cases hg:ns[i]? with
        | none=>rfl
        | some n =>
          dsimp only
          rcases hp i n hg with ⟨h5,h6⟩ | ⟨j,m,h5,h6,_,_⟩
          · omega
          · rw [h5]
            exact ih k' j (by omega) (by omega)
/-- whether a place stands at a place,or below it -/
def belI (ns:List Node) (a:Nat) (i:Int):Bool:=bel ns a (i.toNat+1) i
theorem belI_neg {i0:Int} (h:i0<(0:Int)):belI ns a i0=false:=by unfold belI bel;rw [if_pos (by omega)]
theorem belI_lt (h:(i:Int)<a):belI ns a (i:Int)=false:=by unfold belI bel;rw [if_pos h]
theorem belI_eq:belI ns a (a:Int)=true:=by unfold belI bel;simp
theorem belI_up (hp:Par ns) (hg:ns[i]? = some n) (hne:i≠a):belI ns a (i:Int)=belI ns a n.parent:=by
  have hni:(i:Int)≠a:=by omega
  rcases hp i n hg with ⟨h5,h6⟩ | ⟨j,m,h5,h6,h7,_⟩
  · subst h5
    rw [h6,belI_neg (i0:=-1) (by omega),belI_lt (i:=0) (by omega)]
  · rw [h5]
    by_cases h:(i:Int)<a
    · rw [belI_lt h,belI_lt (by omega)]
    · unfold belI
      conv=>lhs;unfold bel
      rw [if_neg h,if_neg hni]
      simp only [Int.toNat_natCast,hg]
      rw [h5]
      exact bel_fuel hp a _ _ j (by omega) (by omega)
theorem belI_iff (hp:Par ns):∀ i,i<ns.length→(belI ns a (i:Int)=true↔UpTo ns i a):=by
  intro i
  induction i using Nat.strongRecOn with
  | _ i ih =>
    intro hi
    by_cases he:i=a
    · subst he
      exact ⟨fun _=>.refl hi,fun _=>belI_eq⟩
    · have hg:ns[i]? = some ns[i]:=List.getElem?_eq_getElem hi
      rw [belI_up hp hg he]
      rcases hp i _ hg with ⟨h5,h6⟩ | ⟨j,m,h5,h6,h7,_⟩
      · rw [h6,belI_neg (by omega)]
        refine ⟨fun h=>(by cases h),fun h=>?_⟩
        cases h with
        | refl _=>exact absurd rfl he
        | step h1 h2 _ =>
          rw [hg] at h1;cases h1
          omega
      · rw [h5,ih j h6 (by omega)]
        refine ⟨fun h=>.step hg h5 h,fun h=>?_⟩
        cases h with
        | refl _=>exact absurd rfl he
        | step h1 h2 h3 =>
          rw [hg] at h1;cases h1
          have:j=_:=Int.ofNat.inj (h5.symm.trans h2)
          subst this
          exact h3
end
theorem TreeS.place_iff {t:TreeS} {r:Root}:0≤t.place r↔(idxOf t.nodes r).isSome=true:=by
  unfold TreeS.place
  cases idxOf t.nodes r with
  | none=>simp
  | some i=>simp
theorem TreeS.place_none {t:TreeS} {r:Root} (h:t.place r<0):idxOf t.nodes r=none:=by
  cases e:idxOf t.nodes r with
  | none=>rfl
  | some i=>unfold TreeS.place at h;rw [e] at h;dsimp only at h;omega
theorem TreeS.place_some {t:TreeS} {r:Root} (h:0≤t.place r):∃ i:Nat,idxOf t.nodes r=some i∧t.place r=(i:Int):=by
  cases e:idxOf t.nodes r with
  | none=>unfold TreeS.place at h;rw [e] at h;dsimp only at h;omega
  | some i=>exact ⟨i,rfl,by unfold TreeS.place;rw [e]⟩
theorem TreeS.node_place_none {t:TreeS} {r:Root} (h:(t.node (t.place r)).isSome=false):idxOf t.nodes r=none:=by
  cases e:idxOf t.nodes r with
  | none=>rfl
  | some i =>
    have hl:=idxOf_lt e
    unfold TreeS.node TreeS.place at h
    rw [e] at h
    simp [hl] at h
theorem TreeS.node_place_some {t:TreeS} {r:Root} (h:(t.node (t.place r)).isSome=true):∃ j m,idxOf t.nodes r=some j∧t.nodes[j]? = some m∧t.node (t.place r)=some m:=by
  cases e:idxOf t.nodes r with
  | none=>unfold TreeS.node TreeS.place at h;rw [e] at h;simp at h
  | some i =>
    have hl:=idxOf_lt e
    have hg:t.nodes[i]? = some t.nodes[i]:=List.getElem?_eq_getElem hl
    refine ⟨i,t.nodes[i],rfl,hg,?_⟩
    unfold TreeS.node TreeS.place
    rw [e]
    simp [hg]
def ridx (R:List Root) (r:Root):Option Nat:=R.findIdx? fun x=>decide (x=r)
def rplace (R:List Root) (r:Root):Int:=match ridx R r with | some i=>(i:Int) | none=>-1
def parR (ns:List Node):List Root:=ns.map fun n=>if 0≤n.parent then ((ns[n.parent.toNat]?).getD nodeNo).root else Root.zero
structure RTreeOf (t:TreeS) (R:List Root) (Sl:List Int) (Pa:List Root):Prop where
  r:R=t.nodes.map (·.root)
  s:Sl=t.nodes.map (·.slot)
  p:Pa=parR t.nodes
def TreeS.up (t:TreeS) (i:Int):Int:=if 0≤i then ((t.nodes[i.toNat]?).getD nodeNo).parent else -1
/-- the children among the first places -/
def kidsTo (ns:List Node) (r:Root) (i:Nat):List Root:=match idxOf ns r with | some a=>((ns.take i).filter fun n=>decide (n.parent=(a:Int))).map (·.root) | none=>[]
def TreeS.adds (t:TreeS):List TAdd→TreeS
  | []=>t
  | a::r=>TreeS.adds (t.add (nameR a.root) (nameR a.parent) a.slot).2 r
theorem TreeS.WF.adds {t:TreeS} (h:t.WF) (xs:List TAdd):(t.adds xs).WF:=by
  induction xs generalizing t with
  | nil=>exact h
  | cons a r ih=>exact ih (h.add _ _ _)
def chain (n:Nat):List Node:=(List.range n).map fun j:Nat=>⟨nameR (j:Int),(j:Int),(j:Int)-1⟩
/-- how many kids the first places have -/
def kidsum (t:TreeS):Nat→Nat
  | 0=>0
  | i+1=>kidsum t i+(t.kids ((t.nodes[i]?).getD nodeNo).root).length
def H0:List UInt32:=[0x6a09e667,0xbb67ae85,0x3c6ef372,0xa54ff53a,0x510e527f,0x9b05688c,0x1f83d9ab,0x5be0cd19]
def K64:List UInt32:=[0x428a2f98,0x71374491,0xb5c0fbcf,0xe9b5dba5,0x3956c25b,0x59f111f1,0x923f82a4,0xab1c5ed5,0xd807aa98,0x12835b01,0x243185be,0x550c7dc3,0x72be5d74,0x80deb1fe,0x9bdc06a7,0xc19bf174,0xe49b69c1,0xefbe4786,0x0fc19dc6,0x240ca1cc,0x2de92c6f,0x4a7484aa,0x5cb0a9dc,0x76f988da,0x983e5152,0xa831c66d,0xb00327c8,0xbf597fc7,0xc6e00bf3,0xd5a79147,0x06ca6351,0x14292967,0x27b70a85,0x2e1b2138,0x4d2c6dfc,0x53380d13,0x650a7354,0x766a0abb,0x81c2c92e,0x92722c85,0xa2bfe8a1,0xa81a664b,0xc24b8b70,0xc76c51a3,0xd192e819,0xd6990624,0xf40e3585,0x106aa070,0x19a4c116,0x1e376c08,0x2748774c,0x34b0bcb5,0x391c0cb3,0x4ed8aa4a,0x5b9cca4f,0x682e6ff3,0x748f82ee,0x78a5636f,0x84c87814,0x8cc70208,0x90befffa,0xa4506ceb,0xbef9a3f7,0xc67178f2]
theorem K64_len:K64.length=64:=rfl
def byteW (bs:List UInt8) (i:Nat):UInt32:=UInt32.ofNat (bs.getD i 0).toNat
def word (bs:List UInt8) (i:Nat):UInt32:=shl32 (byteW bs (4*i)) 24 ||| shl32 (byteW bs (4*i+1)) 16 ||| shl32 (byteW bs (4*i+2)) 8 ||| byteW bs (4*i+3)
def w16 (bs:List UInt8) (i:Nat):List UInt32:=(List.range i).map (word bs)
theorem w16_len (bs:List UInt8) (i:Nat):(w16 bs i).length=i:=by simp [w16]
theorem w16_succ (bs:List UInt8) (i:Nat):w16 bs (i+1)=w16 bs i++[word bs i]:=by simp [w16,List.range_succ]
/-- what is laid so far,and noughts -/
def fillA (m:List UInt32):List UInt32:=m++List.replicate (64-m.length) 0
theorem fillA_len {m:List UInt32} (h:m.length≤64):(fillA m).length=64:=by simp [fillA];omega
theorem fillA_set {m:List UInt32} (h:m.length<64) (u:UInt32):(fillA m).set m.length u=fillA (m++[u]):=by
  unfold fillA
  rw [List.set_append_right _ _ (Nat.le_refl _),Nat.sub_self,show 64-m.length=(64-(m++[u]).length)+1 by simp;omega,List.replicate_succ,List.set_cons_zero,List.append_assoc]
  rfl
theorem fillA_at {m:List UInt32} {j:Nat} (h:j<m.length):(wC (fillA m)).toArray[j]? = some (.int .u32 ((m.getD j 0).toNat:Int)):=by
  have h2:j<(fillA m).length:=by unfold fillA;rw [List.length_append];omega
  have e:(fillA m)[j]=m.getD j 0:=by
    rw [show (fillA m)[j]=m[j] from List.getElem_append_left h]
    simp [List.getD_eq_getElem?_getD,h]
  rw [wC_at0 h2,e]
theorem fillA_st {m:List UInt32} {j:Nat} (hj:j=m.length) (h:m.length<64) (u:UInt32):(wC (fillA m)).toArray.setIfInBounds j (.int .u32 (u.toNat:Int))=(wC (fillA (m++[u]))).toArray:=by
  subst hj
  rw [wC_set0,fillA_set h]
theorem wC_gd {ws:List UInt32} {j:Nat} (h:j<ws.length):(wC ws).toArray[j]? = some (.int .u32 ((ws.getD j 0).toNat:Int)):=by
  rw [wC_at0 h]
  congr 3
  simp [List.getD_eq_getElem?_getD,h]
def next16 (m:List UInt32):UInt32 :=
  m.getD (m.length-16) 0+(rotr (m.getD (m.length-15) 0) 7 ^^^ rotr (m.getD (m.length-15) 0) 18 ^^^ shr32 (m.getD (m.length-15) 0) 3)+m.getD (m.length-7) 0+(rotr (m.getD (m.length-2) 0) 17 ^^^ rotr (m.getD (m.length-2) 0) 19 ^^^ shr32 (m.getD (m.length-2) 0) 10)
def sch:Nat→List UInt32→List UInt32
  | 0,l=>l
  | k+1,l=>sch k l++[next16 (sch k l)]
theorem sch_len (k:Nat) (l:List UInt32):(sch k l).length=k+l.length:=by
  induction k with
  | zero=>simp [sch]
  | succ k ih=>rw [sch,List.length_append,ih];simp;omega
def layM (bs:List UInt8):List UInt32:=sch 48 (w16 bs 16)
theorem layM_len (bs:List UInt8):(layM bs).length=64:=by unfold layM;rw [sch_len,w16_len]
theorem fillA_64 {m:List UInt32} (h:m.length=64):fillA m=m:=by unfold fillA;rw [h];simp
def rnd (k w:UInt32):List UInt32→List UInt32
  | [a,b,c,d,e,f,g,h] =>
    [h+(rotr e 6 ^^^ rotr e 11 ^^^ rotr e 25)+(e &&& f ^^^ ~~~e &&& g)+k+w+((rotr a 2 ^^^ rotr a 13 ^^^ rotr a 22)+(a &&& b ^^^ a &&& c ^^^ b &&& c)),a,b,c,d+(h+(rotr e 6 ^^^ rotr e 11 ^^^ rotr e 25)+(e &&& f ^^^ ~~~e &&& g)+k+w),e,f,g]
  | l=>l
theorem list_len8 {l:List UInt32} (h:l.length=8):∃ a b c d e f g k,l=[a,b,c,d,e,f,g,k]:=by
  match l,h with
  | [a,b,c,d,e,f,g,k],_=>exact ⟨a,b,c,d,e,f,g,k,rfl⟩
theorem rnd_len {k w:UInt32} {l:List UInt32} (h:l.length=8):(rnd k w l).length=8:=by
  obtain ⟨a,b,c,d,e,f,g,k,rfl⟩:=list_len8 h
  rfl
def rnds (W ws:List UInt32):Nat→List UInt32
  | 0=>ws
  | i+1=>rnd (K64.getD i 0) (W.getD i 0) (rnds W ws i)
theorem rnds_len {W ws:List UInt32} (h:ws.length=8) (i:Nat):(rnds W ws i).length=8:=by
  induction i with
  | zero=>exact h
  | succ i ih=>exact rnd_len ih
def W8.add (w:W8) (v:List UInt32) (i:Nat):W8:=⟨(List.range 8).map fun j=>if j<i then w.1.getD j 0+v.getD j 0 else w.1.getD j 0,by simp⟩
theorem W8.add_zero (w:W8) (v:List UInt32):w.add v 0=w:=by
  apply Subtype.ext
  refine List.ext_getElem (by rw [w.2];simp [W8.add]) fun j h1 h2=>?_
  simp [W8.add,List.getD_eq_getElem?_getD,h2]
theorem W8.add_get (w:W8) (v:List UInt32) {i:Nat} (h:i<8):(w.add v i).1.getD i 0=w.1.getD i 0:=by
  simp [W8.add,List.getD_eq_getElem?_getD,h]
theorem stC_wld (w:W8) (v:List UInt32) (r:SlV) (n:Nat) {i:Nat} (h:i<8):(stC ⟨w.add v i,r,n⟩).toArray[i]? = some (.int .u32 ((w.1.getD i 0).toNat:Int)):=by
  have h8:i<(w.add v i).1.length:=by rw [(w.add v i).2];exact h
  have:=wC_at (X:=[SlV.v r]++[.int .u64 (n:Int)]) h8
  rw [←w.add_get v h]
  rw [show (w.add v i).1.getD i 0=(w.add v i).1[i] by simp [List.getD_eq_getElem?_getD,h8]]
  exact this
theorem stC_wst (w:W8) (v:List UInt32) (r:SlV) (n:Nat) {i:Nat} (h:i<8) {u:UInt32} (hu:u=w.1.getD i 0+v.getD i 0):(stC ⟨w.add v i,r,n⟩).toArray.setIfInBounds i (.int .u32 (u.toNat:Int))=(stC ⟨w.add v (i+1),r,n⟩).toArray:=by
  subst hu
  have h8:i<(w.add v i).1.length:=by rw [(w.add v i).2];exact h
  have:=wC_set (X:=[SlV.v r]++[.int .u64 (n:Int)]) h8 (w.1.getD i 0+v.getD i 0)
  refine this.trans ?_
  show (wC _++_).toArray=(wC _++_).toArray
  congr 2
  congr 1
  refine List.ext_getElem (by simp [W8.add]) fun j h1 h2=>?_
  rw [List.getElem_set]
  by_cases e:i=j
  · subst e;simp [W8.add]
  · rw [if_neg e]
    simp only [W8.add,List.getElem_map,List.getElem_range]
    by_cases h3:j<i
    · rw [if_pos h3,if_pos (by omega)]
    · rw [if_neg h3,if_neg (by omega)]
/-- a block more -/
def blk8 (w:W8) (bs:List UInt8):W8:=w.add (rnds (layM bs) w.1 64) 8
def run8:Nat→W8→List UInt8→W8
  | 0,w,_=>w
  | k+1,w,bs=>run8 k (blk8 w (bs.take 64)) (bs.drop 64)
def runs (w:W8) (bs:List UInt8):W8:=run8 (bs.length / 64) w bs
def left (bs:List UInt8):List UInt8:=bs.drop (64*(bs.length / 64))
theorem runs_lt {w:W8} {bs:List UInt8} (h:bs.length<64):runs w bs=w:=by
  unfold runs
  rw [Nat.div_eq_of_lt h]
  rfl
theorem left_lt {bs:List UInt8} (h:bs.length<64):left bs=bs:=by
  unfold left
  rw [Nat.div_eq_of_lt h]
  rfl
theorem left_length (bs:List UInt8):(left bs).length=bs.length % 64:=by
  unfold left
  rw [List.length_drop]
  omega
theorem runs_ge {w:W8} {bs:List UInt8} (h:64≤bs.length):runs w bs=runs (blk8 w (bs.take 64)) (bs.drop 64):=by
  unfold runs
  rw [List.length_drop,show bs.length / 64=(bs.length-64) / 64+1 by omega]
  rfl
theorem left_ge {bs:List UInt8} (h:64≤bs.length):left bs=left (bs.drop 64):=by
  unfold left
  rw [List.length_drop,List.drop_drop]
  congr 1
  omega
theorem runs_append (y:List UInt8):∀ (k:Nat) (x:List UInt8) (w:W8),x.length / 64=k→runs w (x++y)=runs (runs w x) (left x++y)∧left (x++y)=left (left x++y)
  | 0,x,w,h=>by
    have hx:x.length<64:=by omega
    rw [runs_lt (w:=w) hx,left_lt hx]
    exact ⟨rfl,rfl⟩
  | k+1,x,w,h=>by
    have hx:64≤x.length:=by omega
    have ih:=runs_append y k (x.drop 64) (blk8 w (x.take 64)) (by rw [List.length_drop];omega)
    have e1:(x++y).take 64=x.take 64:=by rw [List.take_append_of_le_length hx]
    have e2:(x++y).drop 64=x.drop 64++y:=by rw [List.drop_append_of_le_length hx]
    have hl:64≤(x++y).length:=by rw [List.length_append];omega
    rw [runs_ge hl,e1,e2,left_ge hl,e2,runs_ge (w:=w) hx,left_ge hx]
    exact ih
def zpad (n:Nat):Nat:=(119-n) % 64
def be64 (m i:Nat):List UInt8:=(List.range i).map fun j=>UInt8.ofNat (m / 2 ^ (56-8*j))
theorem be64_succ (m i:Nat):be64 m (i+1)=be64 m i++[UInt8.ofNat (m / 2 ^ (56-8*i))]:=by simp [be64,List.range_succ]
theorem be64_len (m i:Nat):(be64 m i).length=i:=by simp [be64]
def padM (r:List UInt8) (n:Nat):List UInt8:=r++[128]++List.replicate (zpad r.length) 0++be64 (n*8) 8
def byteOf (w:W8) (j:Nat):UInt8:=UInt8.ofNat (shr32 (w.1.getD (j / 4) 0) (24-8*(j % 4))).toNat
def outN (w:W8) (i:Nat):Root:=⟨(List.range 32).map fun j=>if j<4*i then byteOf w j else 0,by simp⟩
theorem outN_zero (w:W8):outN w 0=Root.zero:=by
  apply Subtype.ext
  refine List.ext_getElem (by simp [outN,Root.zero]) fun j h1 h2=>?_
  have hj:j<32:=by simpa [Root.zero] using h2
  simp only [outN,Root.zero,List.getElem_map,List.getElem_range,List.getElem_replicate]
  rw [if_neg (by omega)]
theorem shr32_zero (x:UInt32):shr32 x 0=x:=by unfold shr32;simp
theorem outN_succ (w:W8) {i:Nat} (h:i<8):outN w (i+1)=((((outN w i).set (4*i) (UInt8.ofNat (shr32 (w.1.getD i 0) 24).toNat)).set (4*i+1) (UInt8.ofNat (shr32 (w.1.getD i 0) 16).toNat)).set (4*i+2) (UInt8.ofNat (shr32 (w.1.getD i 0) 8).toNat)).set (4*i+3) (UInt8.ofNat (w.1.getD i 0).toNat):=by
  apply Subtype.ext
  refine List.ext_getElem (by simp [outN,Root.set]) fun j h1 h2=>?_
  simp only [outN,Root.set,List.getElem_set,List.getElem_map,List.getElem_range]
  have d:∀ q,q<4→(4*i+q) / 4=i∧(4*i+q) % 4=q:=fun q hq=>⟨by omega,by omega⟩
  by_cases e3:4*i+3=j
  · subst e3;rw [if_pos rfl,if_pos (by omega)];unfold byteOf;rw [(d 3 (by omega)).1,(d 3 (by omega)).2,shr32_zero]
  · rw [if_neg e3]
    by_cases e2:4*i+2=j
    · subst e2;rw [if_pos rfl,if_pos (by omega)];unfold byteOf;rw [(d 2 (by omega)).1,(d 2 (by omega)).2]
    · rw [if_neg e2]
      by_cases e1:4*i+1=j
      · subst e1;rw [if_pos rfl,if_pos (by omega)];unfold byteOf;rw [(d 1 (by omega)).1,(d 1 (by omega)).2]
      · rw [if_neg e1]
        by_cases e0:4*i=j
        · subst e0;rw [if_pos rfl,if_pos (by omega)];unfold byteOf;rw [show 4*i / 4=i by omega,show 4*i % 4=0 by omega]
        · rw [if_neg e0]
          by_cases h3:j<4*i
          · rw [if_pos h3,if_pos (by omega)]
          · rw [if_neg h3,if_neg (by omega)]
def outR (w:W8):Root:=outN w 8
def H8:W8:=⟨H0,rfl⟩
def shaM (m:List UInt8):Root:=outR (runs (runs H8 m) (padM (left m) m.length))
def DIG:List UInt8:=[48,49,50,51,52,53,54,55,56,57,97,98,99,100,101,102]
def hexd (n:Nat):UInt8:=DIG.getD n 0
def hexS (l:List UInt8):List UInt8:=l.flatMap fun b=>[hexd (b.toNat / 16),hexd (b.toNat % 16)]
theorem lt8 {x y:UInt8}:x<y↔x.toNat<y.toNat:=UInt8.lt_iff_toNat_lt
theorem bl_irrefl:∀ (a:List UInt8),Op.bytesLess a a=false
  | []=>rfl
  | x::a=>by simp [Op.bytesLess,bl_irrefl a]
theorem bl_asymm:∀ {a b:List UInt8},Op.bytesLess a b=true→Op.bytesLess b a=false
  | [],[],h=>by simp [Op.bytesLess] at h
  | [],y::b,h=>by simp [Op.bytesLess]
  | x::a,[],h=>by simp [Op.bytesLess] at h
  | x::a,y::b,h=>by
    simp only [Op.bytesLess,Bool.or_eq_true,decide_eq_true_eq,Bool.and_eq_true,beq_iff_eq,lt8] at h
    have h2:¬ (y.toNat<x.toNat∨y=x∧Op.bytesLess b a=true):=by
      rintro (h3 | ⟨rfl,h3⟩)
      · rcases h with h | ⟨rfl,h⟩<;>omega
      · rcases h with h | ⟨_,h⟩
        · omega
        · rw [bl_asymm h] at h3;cases h3
    cases e:Op.bytesLess (y::b) (x::a) with
    | false=>rfl
    | true =>
      simp only [Op.bytesLess,Bool.or_eq_true,decide_eq_true_eq,Bool.and_eq_true,beq_iff_eq,lt8] at e
      exact absurd e h2
theorem bl_tri:∀ {a b:List UInt8},a.length=b.length→Op.bytesLess a b=false→Op.bytesLess b a=false→a=b
  | [],[],_,_,_=>rfl
  | x::a,y::b,hl,h1,h2=>by
    have e1:¬ (x.toNat<y.toNat∨x=y∧Op.bytesLess a b=true):=fun h=>by
      have:Op.bytesLess (x::a) (y::b)=true:=by simp only [Op.bytesLess,Bool.or_eq_true,decide_eq_true_eq,Bool.and_eq_true,beq_iff_eq,lt8];exact h
      rw [h1] at this;cases this
    have e2:¬ (y.toNat<x.toNat∨y=x∧Op.bytesLess b a=true):=fun h=>by
      have:Op.bytesLess (y::b) (x::a)=true:=by simp only [Op.bytesLess,Bool.or_eq_true,decide_eq_true_eq,Bool.and_eq_true,beq_iff_eq,lt8];exact h
      rw [h2] at this;cases this
    have exy:x=y:=UInt8.toNat_inj.1 (by omega)
    subst exy
    have e3:Op.bytesLess a b=false:=by cases e:Op.bytesLess a b with | false=>rfl | true=>exact absurd (.inr ⟨rfl,e⟩) e1
    have e4:Op.bytesLess b a=false:=by cases e:Op.bytesLess b a with | false=>rfl | true=>exact absurd (.inr ⟨rfl,e⟩) e2
    rw [bl_tri (by simpa using hl) e3 e4]
theorem bl_trans:∀ {a b c:List UInt8},Op.bytesLess a b=true→Op.bytesLess b c=true→Op.bytesLess a c=true
  | [],[],_,h,_=>by simp [Op.bytesLess] at h
  | _::_,[],_,h,_=>by simp [Op.bytesLess] at h
  | _,_::_,[],_,h=>by simp [Op.bytesLess] at h
  | [],_::_,z::c,_,_=>by simp [Op.bytesLess]
  | x::a,y::b,z::c,h1,h2=>by
    simp only [Op.bytesLess,Bool.or_eq_true,decide_eq_true_eq,Bool.and_eq_true,beq_iff_eq,lt8] at h1 h2 ⊢
    rcases h1 with h1 | ⟨rfl,h1⟩
    · rcases h2 with h2 | ⟨rfl,h2⟩
      · exact .inl (by omega)
      · exact .inl h1
    · rcases h2 with h2 | ⟨rfl,h2⟩
      · exact .inl h2
      · exact .inr ⟨rfl,bl_trans h1 h2⟩
theorem left_nil:left []=[]:=by simp [left]
theorem runs_nil (w:W8):runs w []=w:=runs_lt (by simp)
def sg (f:Nat→Int):Nat→Int
  | 0=>0
  | m+1=>sg f m+f m
section
variable {f g:Nat→Int} {m:Nat}
theorem sg_succ:sg f (m+1)=sg f m+f m:=rfl
theorem sg_congr (h:∀ j,j<m→f j=g j):sg f m=sg g m:=by
  induction m with
  | zero=>rfl
  | succ m ih=>rw [sg_succ,sg_succ,ih (fun j hj=>h j (by omega)),h m (by omega)]
theorem sg_add (f g:Nat→Int) (m:Nat):sg (fun j=>f j+g j) m=sg f m+sg g m:=by
  induction m with
  | zero=>rfl
  | succ m ih=>rw [sg_succ,sg_succ,sg_succ,ih];omega
theorem sg_le (h:∀ j,j<m→f j≤g j):sg f m≤sg g m:=by
  induction m with
  | zero=>exact Int.le_refl _
  | succ m ih =>
    have h1:=ih fun j hj=>h j (by omega)
    have h2:=h m (by omega)
    rw [sg_succ,sg_succ]
    omega
theorem sg_zero (h:∀ j,j<m→f j=0):sg f m=0:=by
  induction m with
  | zero=>rfl
  | succ m ih=>rw [sg_succ,ih (fun j hj=>h j (by omega)),h m (by omega)];rfl
theorem sg_nonneg (h:∀ j,j<m→0≤f j):0≤sg f m:=by
  induction m with
  | zero=>exact Int.le_refl _
  | succ m ih =>
    have h1:=ih fun j hj=>h j (by omega)
    have h2:=h m (by omega)
    rw [sg_succ]
    omega
theorem sg_one (i:Nat) (d:Int) (m:Nat):sg (fun j=>if j=i then d else 0) m=if i<m then d else 0:=by
  induction m with
  | zero=>rfl
  | succ m ih =>
    rw [sg_succ,ih]
    by_cases h:m=i
    · subst h
      rw [if_neg (by omega),if_pos rfl,if_pos (by omega)];omega
    · rw [if_neg h]
      by_cases h2:i<m
      · rw [if_pos h2,if_pos (by omega)];omega
      · rw [if_neg h2,if_neg (by omega)];rfl
theorem sg_ext {n:Nat} (hn:m≤n) (h:∀ j,m≤j→j<n→f j=0):sg f n=sg f m:=by
  induction n with
  | zero=>rw [show m=0 by omega]
  | succ n ih =>
    by_cases e:m=n+1
    · rw [e]
    · rw [sg_succ,ih (by omega) (fun j h1 h2=>h j h1 (by omega)),h n (by omega) (by omega)];omega
theorem sg_get (h:∀ j,j<m→0≤f j) {i:Nat} (hi:i<m):f i≤sg f m:=by
  induction m with
  | zero=>omega
  | succ m ih =>
    rw [sg_succ]
    have h1:=h m (by omega)
    by_cases e:i=m
    · subst e
      have:=sg_nonneg (f:=f) (m:=i) fun j hj=>h j (by omega)
      omega
    · have:=ih (fun j hj=>h j (by omega)) (by omega)
      omega
end
def oA (o:List Int) (j:Nat):Int:=o.getD j 0
theorem oA_get {o:List Int} {j:Nat} (h:j<o.length):oA o j=o[j]:=by simp [oA,List.getD_eq_getElem?_getD,h]
theorem oA_out {o:List Int} {j:Nat} (h:o.length≤j):oA o j=0:=by simp [oA,List.getD_eq_getElem?_getD,h]
theorem oA_set {o:List Int} {i j:Nat} {v:Int} (h:i<o.length):oA (o.set i v) j=if j=i then v else oA o j:=by
  unfold oA
  rw [List.getD_eq_getElem?_getD,List.getD_eq_getElem?_getD,List.getElem?_set]
  by_cases e:i=j
  · subst e;simp [h]
  · rw [if_neg e,if_neg (fun h=>e h.symm)]
theorem oA_zeros {o:List Int} {k j:Nat}:oA (o++List.replicate k 0) j=oA o j:=by
  unfold oA
  rw [List.getD_eq_getElem?_getD,List.getD_eq_getElem?_getD]
  by_cases h:j<o.length
  · rw [List.getElem?_append_left h]
  · rw [List.getElem?_append_right (by omega),List.getElem?_eq_none (show o.length≤j by omega),List.getElem?_replicate]
    split<;>rfl
theorem oA_map {n:Nat} {f:Nat→Int} {j:Nat} (h:j<n):oA ((List.range n).map f) j=f j:=by
  rw [oA_get (by simp [h])]
  simp
def tot (o:List Int):Int:=sg (oA o) o.length
def rtA (ns:List Node) (i:Nat):Root:=((ns[i]?).getD nodeNo).root
def prA (ns:List Node) (i:Nat):Int:=((ns[i]?).getD nodeNo).parent
theorem prA_get {ns:List Node} {i:Nat} (h:i<ns.length):prA ns i=ns[i].parent:=by simp [prA,h]
theorem rtA_get {ns:List Node} {i:Nat} (h:i<ns.length):rtA ns i=ns[i].root:=by simp [rtA,h]
theorem prA_app {ns xs:List Node} {i:Nat} (h:i<ns.length):prA (ns++xs) i=prA ns i:=by unfold prA;rw [List.getElem?_append_left h]
theorem rtA_app {ns xs:List Node} {i:Nat} (h:i<ns.length):rtA (ns++xs) i=rtA ns i:=by unfold rtA;rw [List.getElem?_append_left h]
theorem Par.rg {ns:List Node} (hp:Par ns) {i:Nat} (h:i<ns.length):(i=0∧prA ns i=-1)∨∃ j:Nat,prA ns i=j∧j<i:=by
  rw [prA_get h]
  rcases hp i _ (List.getElem?_eq_getElem h) with h1 | ⟨j,m,h1,h2,_⟩
  · exact .inl h1
  · exact .inr ⟨j,h1,h2⟩
theorem bel_append {ns xs:List Node} (hp:Par ns) (a:Nat):∀ (k:Nat) (i:Int),i<ns.length→bel (ns++xs) a k i=bel ns a k i:=by
  intro k
  induction k with
  | zero=>intro i h;rfl
  | succ k ih =>
    intro i h
    unfold bel
    by_cases h1:i<a
    · rw [if_pos h1,if_pos h1]
    · rw [if_neg h1,if_neg h1]
      by_cases h2:i=a
      · rw [if_pos h2,if_pos h2]
      · rw [if_neg h2,if_neg h2]
        have hl:i.toNat<ns.length:=by omega
        rw [List.getElem?_append_left hl,List.getElem?_eq_getElem hl]
        dsimp only
        refine ih _ ?_
        rcases hp i.toNat _ (List.getElem?_eq_getElem hl) with ⟨h3,h4⟩ | ⟨j,m,h3,h4,_⟩
        · rw [h4];omega
        · rw [h3];omega
theorem belI_append {ns xs:List Node} (hp:Par ns) {a i:Nat} (h:i<ns.length):belI (ns++xs) a (i:Int)=belI ns a (i:Int):=bel_append hp a _ _ (by omega)
theorem belI_pr {ns:List Node} (hp:Par ns) {a i:Nat} (h:i<ns.length) (hne:i≠a):belI ns a (i:Int)=belI ns a (prA ns i):=by
  rw [prA_get h]
  exact belI_up hp (List.getElem?_eq_getElem h) hne
theorem belI_trans {ns:List Node} (hp:Par ns) {a k i:Nat} (hk:k<ns.length) (hi:i<ns.length) (h1:belI ns a (k:Int)=true) (h2:belI ns k (i:Int)=true):belI ns a (i:Int)=true :=
  (belI_iff hp i hi).2 (((belI_iff hp i hi).1 h2).trans ((belI_iff hp k hk).1 h1))
/-- what a block weighs with all below it,of the blocks that are known -/
def sumN (ns:List Node) (o:List Int) (a:Nat):Int:=sg (fun j=>if belI ns a (j:Int)=true then oA o j else 0) o.length
def sumL (ns:List Node) (o:List Int):List Int:=(List.range o.length).map (sumN ns o)
theorem sumL_len (ns:List Node) (o:List Int):(sumL ns o).length=o.length:=by simp [sumL]
theorem sumL_at {ns:List Node} {o:List Int} {i:Nat} (h:i<o.length):oA (sumL ns o) i=sumN ns o i:=oA_map h
theorem sumN_app {ns xs:List Node} {o:List Int} (hp:Par ns) (h:o.length≤ns.length) (a:Nat):sumN (ns++xs) o a=sumN ns o a :=
  sg_congr fun j hj=>by rw [belI_append hp (by omega)]
theorem sumL_app {ns xs:List Node} {o:List Int} (hp:Par ns) (h:o.length≤ns.length):sumL (ns++xs) o=sumL ns o:=by
  unfold sumL
  apply List.map_congr_left
  intro a _
  exact sumN_app hp h a
theorem sumN_zeros {ns:List Node} {o:List Int} (k a:Nat):sumN ns (o++List.replicate k 0) a=sumN ns o a:=by
  unfold sumN
  rw [List.length_append,List.length_replicate,sg_ext (m:=o.length) (by omega)]
  · exact sg_congr fun j hj=>by rw [oA_zeros]
  · intro j h1 h2
    rw [oA_zeros,oA_out h1]
    split<;>rfl
theorem sumN_hi {ns:List Node} {o:List Int} {a:Nat} (h:o.length≤a):sumN ns o a=0 :=
  sg_zero fun j hj=>by rw [belI_lt (by omega)];rfl
theorem sumL_zeros {ns:List Node} {o:List Int} (k:Nat):sumL ns (o++List.replicate k 0)=sumL ns o++List.replicate k 0:=by
  apply List.ext_getElem
  · simp [sumL]
  · intro j h1 h2
    have hj:j<o.length+k:=by simpa [sumL] using h1
    have e1:(sumL ns (o++List.replicate k 0))[j]=sumN ns o j:=by simp only [sumL,List.getElem_map,List.getElem_range];exact sumN_zeros k j
    rw [e1]
    by_cases h:j<o.length
    · rw [List.getElem_append_left (by rw [sumL_len];exact h)]
      simp [sumL]
    · rw [List.getElem_append_right (by rw [sumL_len];omega),List.getElem_replicate,sumN_hi (by omega)]
theorem sumN_set {ns:List Node} {o:List Int} {i:Nat} (hi:i<o.length) (v:Int) (a:Nat):sumN ns (o.set i v) a=sumN ns o a+if belI ns a (i:Int)=true then v-oA o i else 0:=by
  unfold sumN
  rw [List.length_set]
  have e:sg (fun j=>if belI ns a (j:Int)=true then oA (o.set i v) j else 0) o.length=sg (fun j=>(if belI ns a (j:Int)=true then oA o j else 0)+(if j=i then (if belI ns a (i:Int)=true then v-oA o i else 0) else 0)) o.length :=
    sg_congr fun j hj=>by
      rw [oA_set hi]
      by_cases h:j=i
      · subst h
        rw [if_pos rfl,if_pos rfl]
        split<;>omega
      · rw [if_neg h,if_neg h];omega
  rw [e,sg_add,sg_one,if_pos hi]
theorem tot_set {o:List Int} {i:Nat} (hi:i<o.length) (v:Int):tot (o.set i v)=tot o+(v-oA o i):=by
  unfold tot
  rw [List.length_set]
  have e:sg (oA (o.set i v)) o.length=sg (fun j=>oA o j+(if j=i then v-oA o i else 0)) o.length:=sg_congr fun j hj=>by
    rw [oA_set hi]
    by_cases h:j=i
    · subst h;rw [if_pos rfl,if_pos rfl];omega
    · rw [if_neg h,if_neg h];omega
  rw [e,sg_add,sg_one,if_pos hi]
theorem tot_zeros {o:List Int} {k:Nat}:tot (o++List.replicate k 0)=tot o:=by
  unfold tot
  rw [List.length_append,List.length_replicate,sg_ext (m:=o.length) (by omega)]
  · exact sg_congr fun j hj=>oA_zeros
  · intro j h1 h2
    rw [oA_zeros,oA_out h1]
structure OwnOK (o:List Int):Prop where
  nn:∀ j,0≤oA o j
  tt:tot o<4611686018427387904
theorem OwnOK.zeros {o:List Int} (h:OwnOK o) (k:Nat):OwnOK (o++List.replicate k 0):=⟨fun j=>by rw [oA_zeros];exact h.nn j,by rw [tot_zeros];exact h.tt⟩
theorem OwnOK.nil:OwnOK []:=⟨fun j=>by rw [oA_out (Nat.zero_le _)];exact Int.le_refl _,by decide⟩
theorem OwnOK.lt {o:List Int} (h:OwnOK o) (j:Nat):oA o j<4611686018427387904:=by
  by_cases hj:j<o.length
  · have:=sg_get (f:=oA o) (m:=o.length) (fun j _=>h.nn j) hj
    have h2:=h.tt
    unfold tot at h2
    omega
  · rw [oA_out (by omega)];decide
section
variable {ns:List Node} {o:List Int} {a:Nat}
theorem sumN_nonneg (h:∀ j,0≤oA o j):0≤sumN ns o a:=sg_nonneg fun j _=>by
  have:=h j
  split<;>omega
theorem sumN_tot (h:∀ j,0≤oA o j):sumN ns o a≤tot o:=sg_le fun j _=>by
  have:=h j
  split<;>omega
end
def kidsI (ns:List Node) (n p:Nat):List Nat:=(List.range n).filter fun k=>decide (prA ns k=(p:Int))
theorem kidsI_succ (ns:List Node) (n p:Nat):kidsI ns (n+1) p=if prA ns n=(p:Int) then kidsI ns n p++[n] else kidsI ns n p:=by
  unfold kidsI
  rw [List.range_succ,List.filter_append]
  by_cases h:prA ns n=(p:Int)
  · rw [if_pos h,List.filter_cons_of_pos (by simpa using h)];rfl
  · rw [if_neg h,List.filter_cons_of_neg (by simpa using h)];simp
theorem mem_kidsI {ns:List Node} {n p k:Nat}:k∈kidsI ns n p↔k<n∧prA ns k=(p:Int):=by
  unfold kidsI
  rw [List.mem_filter]
  simp
theorem kidsI_gt {ns:List Node} (hp:Par ns) {n p k:Nat} (hn:n≤ns.length) (h:k∈kidsI ns n p):p<k∧k<n:=by
  obtain ⟨h1,h2⟩:=mem_kidsI.1 h
  rcases hp.rg (show k<ns.length by omega) with ⟨h3,h4⟩ | ⟨j,h3,h4⟩<;>omega
def tab (n:Nat) (f:Nat→Int):List Int:=(List.range n).map f
section
variable {n i:Nat} {f g:Nat→Int}
theorem tab_len (n:Nat) (f:Nat→Int):(tab n f).length=n:=by simp [tab]
theorem tab_oA (h:i<n):oA (tab n f) i=f i:=oA_map h
theorem tab_get (h:i<(tab n f).length):(tab n f)[i]=f i:=by simp [tab]
theorem tab_congr (h:∀ j,j<n→f j=g j):tab n f=tab n g:=List.map_congr_left fun j hj=>h j (by simpa using hj)
theorem tab_set (v:Int):(tab n f).set i v=tab n fun j=>if j=i then v else f j:=by
  apply List.ext_getElem
  · rw [List.length_set,tab_len,tab_len]
  · intro j h1 h2
    rw [List.getElem_set,tab_get h2]
    by_cases e:i=j
    · rw [if_pos e,if_pos e.symm]
    · rw [if_neg e,if_neg (fun h:j=i=>e h.symm),tab_get]
theorem tab_self (o:List Int):tab o.length (oA o)=o:=by
  apply List.ext_getElem
  · rw [tab_len]
  · intro j h1 h2
    rw [tab_get,oA_get h2]
theorem tab_upd {v:Int} (h:∀ j,j<n→(if j=i then v else f j)=g j):(tab n f).set i v=tab n g:=(tab_set v).trans (tab_congr h)
end
theorem TreeS.node_at {t:TreeS} (i:Nat):t.node (i:Int)=t.nodes[i]?:=by unfold TreeS.node;rw [if_pos (by omega),Int.toNat_natCast]
theorem rep_snoc (o:List Int) (i:Nat) (v:Int):o++List.replicate i v++[v]=o++List.replicate (i+1) v:=by rw [List.append_assoc,←List.replicate_succ']
end Go.SL
