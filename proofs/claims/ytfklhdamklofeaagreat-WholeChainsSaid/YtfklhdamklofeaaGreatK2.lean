import Derived.WalkKit
import Derived.Deep.Draws
import Derived.KernelRfl
import Derived.Deep.AppendLies
import Derived.Laws.BytesArg
import Derived.Laws.MakeOwn
import Derived.Laws.OwnMore
import Derived.LoopN
import Derived.WideLaws
import Derived.StillTail
import Derived.Carry
import Derived.ProofKit
import Derived.OpenShut
import Derived.ChangeCalls
import GoSem.Claim
import GoSem.ClaimJoined
import Derived.Lib.AppendZerosOnto
import Derived.Test.YtfklhdamklofeaaGreatK1
set_option linter.unusedVariables false
set_option linter.unusedSimpArgs false
set_option linter.unusedSectionVars false
namespace Go.SL
abbrev Hp:=Nat→Option Obj
abbrev HProp:=Hp→Prop
def Disj (a b:Hp):Prop:=∀ k,a k=none∨b k=none
def Hp.join (a b:Hp):Hp:=fun k=>match a k with | some o=>some o | none=>b k
def emp:HProp:=fun h=>∀ k,h k=none
def sep (P Q:HProp):HProp:=fun h=>∃ a b,Disj a b∧h=Hp.join a b∧P a∧Q b
def pr (φ:Prop):HProp:=fun h=>φ∧emp h
def ex {α:Type} (P:α→HProp):HProp:=fun h=>∃ x,P x h
def Blk (b:Nat) (o:Obj):HProp:=fun h=>h=fun k=>if k=b then some o else none
def stars:List HProp→HProp
  | []=>emp
  | P::l=>sep P (stars l)
theorem Disj.symm {a b:Hp} (h:Disj a b):Disj b a:=fun k=>(h k).symm
theorem join_comm {a b:Hp} (h:Disj a b):a.join b=b.join a:=by
  funext k
  unfold Hp.join
  rcases h k with e | e<;>cases ha:a k<;>cases hb:b k<;>simp_all
theorem join_assoc (a b c:Hp):(a.join b).join c=a.join (b.join c):=by
  funext k
  unfold Hp.join
  cases a k<;>rfl
theorem disj_join {a b c:Hp}:Disj (a.join b) c↔Disj a c∧Disj b c:=by
  unfold Disj Hp.join
  constructor
  · intro h
    refine ⟨fun k=>?_,fun k=>?_⟩
    · rcases h k with e | e
      · cases ha:a k
        · exact .inl rfl
        · simp [ha] at e
      · exact .inr e
    · rcases h k with e | e
      · cases ha:a k
        · simp [ha] at e;exact .inl e
        · simp [ha] at e
      · exact .inr e
  · rintro ⟨h1,h2⟩ k
    rcases h1 k with e | e
    · rcases h2 k with f | f
      · left;simp [e,f]
      · exact .inr f
    · exact .inr e
theorem disj_join' {a b c:Hp}:Disj a (b.join c)↔Disj a b∧Disj a c :=
  ⟨fun h=>let ⟨x,y⟩:=disj_join.1 h.symm;⟨x.symm,y.symm⟩,fun ⟨x,y⟩=>(disj_join.2 ⟨x.symm,y.symm⟩).symm⟩
theorem emp_iff {h:Hp}:emp h↔h=fun _=>none:=⟨fun e=>funext e,fun e=>by subst e;intro k;rfl⟩
theorem join_none (a:Hp):a.join (fun _=>none)=a:=by funext k;unfold Hp.join;cases a k<;>rfl
theorem disj_none (a:Hp):Disj a (fun _=>none):=fun _=>.inr rfl
theorem sep_comm (P Q:HProp):sep P Q=sep Q P:=by
  funext h
  apply propext
  constructor<;>rintro ⟨a,b,d,rfl,p,q⟩<;>exact ⟨b,a,d.symm,join_comm d,q,p⟩
theorem sep_assoc (P Q R:HProp):sep (sep P Q) R=sep P (sep Q R):=by
  funext h
  apply propext
  constructor
  · rintro ⟨ab,c,d,rfl,⟨a,b,d',rfl,p,q⟩,r⟩
    obtain ⟨d1,d2⟩:=disj_join.1 d
    exact ⟨a,b.join c,disj_join'.2 ⟨d',d1⟩,join_assoc _ _ _,p,b,c,d2,rfl,q,r⟩
  · rintro ⟨a,bc,d,rfl,p,b,c,d',rfl,q,r⟩
    obtain ⟨d1,d2⟩:=disj_join'.1 d
    exact ⟨a.join b,c,disj_join.2 ⟨d2,d'⟩,(join_assoc _ _ _).symm,⟨a,b,d1,rfl,p,q⟩,r⟩
theorem sep_left_comm (P Q R:HProp):sep P (sep Q R)=sep Q (sep P R):=by
  rw [←sep_assoc,sep_comm P Q,sep_assoc]
theorem emp_sep (P:HProp):sep emp P=P:=by
  funext h
  apply propext
  constructor
  · rintro ⟨a,b,d,rfl,p,q⟩
    rw [emp_iff] at p;subst p
    exact q
  · intro p
    exact ⟨fun _=>none,h,(disj_none h).symm,rfl,fun _=>rfl,p⟩
theorem pr_sep (φ:Prop) (P:HProp) (h:Hp):sep (pr φ) P h↔φ∧P h:=by
  constructor
  · rintro ⟨a,b,d,rfl,⟨hp,e⟩,q⟩
    rw [emp_iff] at e;subst e
    exact ⟨hp,q⟩
  · rintro ⟨hp,q⟩
    exact ⟨fun _=>none,h,(disj_none h).symm,rfl,⟨hp,fun _=>rfl⟩,q⟩
theorem sep_mono {P P' Q Q':HProp} (hp:∀ h,P h→P' h) (hq:∀ h,Q h→Q' h) {h:Hp}:sep P Q h→sep P' Q' h:=by
  rintro ⟨a,b,d,e,p,q⟩
  exact ⟨a,b,d,e,hp _ p,hq _ q⟩
theorem stars_perm {l l':List HProp} (h:l.Perm l'):stars l=stars l':=by
  induction h with
  | nil=>rfl
  | cons x _ ih=>simp only [stars,ih]
  | swap x y l=>simp only [stars];rw [sep_left_comm]
  | trans _ _ i j=>rw [i,j]
theorem stars_append (l l':List HProp):stars (l++l')=sep (stars l) (stars l'):=by
  induction l with
  | nil=>simp [stars,emp_sep]
  | cons P l ih=>simp only [List.cons_append,stars,ih,sep_assoc]
theorem size_le {w w':World} (h:∀ k,k<w.heap.size→w'.heap[k]? = w.heap[k]?):w.heap.size≤w'.heap.size:=by
  rcases Nat.eq_zero_or_pos w.heap.size with e | e
  · omega
  · have:=h (w.heap.size-1) (by omega)
    rw [Array.getElem?_eq_getElem (show w.heap.size-1<w.heap.size by omega)] at this
    have:=(Array.getElem?_eq_some_iff.1 this).1
    omega
theorem size_le' {w w':World} {b:Nat} {o:Obj} (ho:w'.heap[b]? = some o) (h:∀ k,k<w.heap.size→k≠b→w'.heap[k]? = w.heap[k]?):w.heap.size≤w'.heap.size:=by
  rcases Nat.eq_zero_or_pos w.heap.size with e | e
  · omega
  · by_cases hb:w.heap.size-1=b
    · have:=(Array.getElem?_eq_some_iff.1 ho).1
      omega
    · have:=h (w.heap.size-1) (by omega) hb
      rw [Array.getElem?_eq_getElem (show w.heap.size-1<w.heap.size by omega)] at this
      have:=(Array.getElem?_eq_some_iff.1 this).1
      omega
/-- the world w,with what it owns;w0 is where the streams come from -/
structure Sat (w0 w:World) (l:List HProp):Prop where
  os:w.os=w0.os
  tape:w.tape=w0.tape
  output:w.output=w0.output
  size:w0.heap.size≤w.heap.size∧w0.drawn≤w.drawn
  own:∃ h:Hp,(∀ k o,h k=some o→w.heap[k]? = some o)∧stars l h
section
variable {w0 w:World} {l l':List HProp} {P Q:HProp}
theorem Sat.map (s:Sat w0 w l) (f:∀ h,stars l h→stars l' h):Sat w0 w l' :=
  let ⟨h,a,b⟩:=s.own
  ⟨s.os,s.tape,s.output,s.size,h,a,f h b⟩
theorem Sat.perm (s:Sat w0 w l) (h:l.Perm l'):Sat w0 w l':=s.map fun h' x=>by rw [←stars_perm h];exact x
theorem perm_pull:∀ (i:Nat) (l:List HProp) (hi:i<l.length),l.Perm (l[i]::l.eraseIdx i)
  | _,[],hi=>absurd hi (by simp)
  | 0,P::l,_=>by simp
  | i+1,P::l,hi=>by
    have ih:=perm_pull i l (by simpa using hi)
    simp only [List.getElem_cons_succ,List.eraseIdx_cons_succ]
    exact (List.Perm.cons P ih).trans (List.Perm.swap _ _ _)
theorem Sat.pull (i:Nat) (s:Sat w0 w l):Sat w0 w (l.getD i emp::l.eraseIdx i):=by
  by_cases hi:i<l.length
  · have:=s.perm (perm_pull i l hi)
    simpa [List.getD_eq_getElem?_getD,List.getElem?_eq_getElem hi] using this
  · have h1:l.getD i emp=emp:=by simp [List.getD_eq_getElem?_getD,List.getElem?_eq_none (Nat.le_of_not_lt hi)]
    rw [h1,List.eraseIdx_of_length_le (Nat.le_of_not_lt hi)]
    exact s.map fun h x=>by simpa [stars,emp_sep] using x
theorem Sat.drop (s:Sat w0 w (P::l)):Sat w0 w l:=by
  obtain ⟨h,a,x,y,d,rfl,p,q⟩:=s.own
  refine ⟨s.os,s.tape,s.output,s.size,y,fun k o hk=>a k o ?_,q⟩
  unfold Hp.join
  rcases d k with e | e
  · simp [e,hk]
  · simp [hk] at e
theorem Sat.head (s:Sat w0 w (P::l)) (f:∀ h,P h→Q h):Sat w0 w (Q::l):=s.map fun _ x=>sep_mono f (fun _ y=>y) x
theorem Sat.head_iff (s:Sat w0 w (P::l)) (f:P=Q):Sat w0 w (Q::l):=f ▸ s
theorem Sat.ex_iff {α:Type} {P:α→HProp}:Sat w0 w (ex P::l)↔∃ x,Sat w0 w (P x::l):=by
  constructor
  · intro s
    obtain ⟨h,a,x,y,d,e,⟨z,p⟩,q⟩:=s.own
    exact ⟨z,s.os,s.tape,s.output,s.size,h,a,x,y,d,e,p,q⟩
  · rintro ⟨z,s⟩
    exact s.head fun _ p=>⟨z,p⟩
theorem Sat.pr_iff {φ:Prop}:Sat w0 w (pr φ::l)↔φ∧Sat w0 w l:=by
  constructor
  · intro s
    obtain ⟨h,a,x⟩:=s.own
    have:=(pr_sep φ (stars l) h).1 x
    exact ⟨this.1,s.os,s.tape,s.output,s.size,h,a,this.2⟩
  · rintro ⟨hp,s⟩
    exact s.map fun h x=>(pr_sep φ (stars l) h).2 ⟨hp,x⟩
theorem Sat.stars_iff {m:List HProp}:Sat w0 w (stars m::l)↔Sat w0 w (m++l):=by
  constructor<;>intro s<;>refine s.map fun h x=>?_
  · rw [stars_append];exact x
  · rw [stars_append] at x;exact x
theorem Sat.emp_cons (s:Sat w0 w l):Sat w0 w (emp::l):=s.map fun h x=>by simpa [stars,emp_sep] using x
/-- A block that is owned is there. -/
theorem Sat.blk {b:Nat} {o:Obj} (s:Sat w0 w (Blk b o::l)):w.heap[b]? = some o:=by
  obtain ⟨h,a,x,y,d,rfl,p,q⟩:=s.own
  refine a b o ?_
  unfold Blk at p;subst p
  simp [Hp.join]
theorem Sat.at (s:Sat w0 w l) (i:Nat) {b:Nat} {o:Obj} (hi:l[i]? = some (Blk b o)):w.heap[b]? = some o:=by
  have:=s.pull i
  rw [List.getD_eq_getElem?_getD,hi] at this
  exact this.blk
theorem Sat.ne {a b:Nat} {o o':Obj} (s:Sat w0 w (Blk a o::Blk b o'::l)):a≠b:=by
  rintro rfl
  obtain ⟨h,_,x,y,d,rfl,p,x',y',d',rfl,p',q⟩:=s.own
  unfold Blk at p p';subst p;subst p'
  have:=d a
  simp [Hp.join] at this
/-- The general step: the blocks that were there stay. -/
theorem Sat.keep {w':World} (s:Sat w0 w l) (h1:w'.os=w.os) (h2:w'.tape=w.tape) (h3:w'.output=w.output) (h4:∀ k,k<w.heap.size→w'.heap[k]? = w.heap[k]?) (h5:w.drawn≤w'.drawn:=by first | exact Nat.le_refl _ | exact Nat.le_succ _ | exact Nat.le_add_right _ _):Sat w0 w' l:=by
  obtain ⟨h,a,x⟩:=s.own
  exact ⟨h1.trans s.os,h2.trans s.tape,h3.trans s.output,⟨Nat.le_trans s.size.1 (size_le h4),Nat.le_trans s.size.2 h5⟩,h,fun k o hk=>(h4 k (Array.getElem?_eq_some_iff.1 (a k o hk)).1).trans (a k o hk),x⟩
theorem Sat.drew (s:Sat w0 w l):Sat w0 w.drew l:=s.keep rfl rfl rfl fun _ _=>rfl
theorem Sat.drewN (s:Sat w0 w l) (n:Nat):Sat w0 (w.drewN n) l:=s.keep rfl rfl rfl fun _ _=>rfl
theorem Sat.lt {b:Nat} {o:Obj} (s:Sat w0 w (Blk b o::l)):b<w.heap.size:=(Array.getElem?_eq_some_iff.1 s.blk).1
/-- A new block. -/
theorem Sat.new {w':World} {b:Nat} {o:Obj} (s:Sat w0 w l) (h1:w'.os=w.os) (h2:w'.tape=w.tape) (h3:w'.output=w.output) (h4:∀ k,k<w.heap.size→w'.heap[k]? = w.heap[k]?)
    (hb:w.heap.size≤b) (ho:w'.heap[b]? = some o) (h5:w.drawn≤w'.drawn:=by first | exact Nat.le_refl _ | exact Nat.le_succ _ | exact Nat.le_add_right _ _):Sat w0 w' (Blk b o::l):=by
  have s':=s.keep h1 h2 h3 h4 h5
  obtain ⟨h,a,x⟩:=s.own
  have hn:h b=none:=by
    cases hh:h b with
    | none=>rfl
    | some o' =>
      have:=(Array.getElem?_eq_some_iff.1 (a b o' hh)).1
      omega
  refine ⟨s'.os,s'.tape,s'.output,s'.size,Hp.join (fun k=>if k=b then some o else none) h,fun k o' hk=>?_,_,h,fun k=>?_,rfl,rfl,x⟩
  · unfold Hp.join at hk
    by_cases e:k=b
    · subst e;simp at hk;subst hk;exact ho
    · simp [e] at hk
      exact (h4 k (Array.getElem?_eq_some_iff.1 (a k o' hk)).1).trans (a k o' hk)
  · by_cases e:k=b
    · subst e;exact .inr hn
    · simp [e]
theorem Sat.alloc (s:Sat w0 w l) (o:Obj):Sat w0 (w.alloc o) (Blk w.heap.size o::l) :=
  s.new rfl rfl rfl (fun k hk=>RowKit.Below.heap_alloc w o k hk) (Nat.le_refl _) (Go.heap_alloc_new w o)
/-- An owned block is written. -/
theorem Sat.upd {w':World} {b:Nat} {o o':Obj} (s:Sat w0 w (Blk b o::l)) (h1:w'.os=w.os) (h2:w'.tape=w.tape) (h3:w'.output=w.output)
    (ho:w'.heap[b]? = some o') (h4:∀ k,k<w.heap.size→k≠b→w'.heap[k]? = w.heap[k]?) (h5:w.drawn≤w'.drawn:=by first | exact Nat.le_refl _ | exact Nat.le_succ _ | exact Nat.le_add_right _ _):Sat w0 w' (Blk b o'::l):=by
  obtain ⟨h,a,x,y,d,rfl,p,q⟩:=s.own
  unfold Blk at p;subst p
  have hn:y b=none:=by
    have:=d b
    simpa using this
  refine ⟨h1.trans s.os,h2.trans s.tape,h3.trans s.output,⟨Nat.le_trans s.size.1 (size_le' ho h4),Nat.le_trans s.size.2 h5⟩,Hp.join (fun k=>if k=b then some o' else none) y,fun k u hk=>?_,_,y,fun k=>?_,rfl,rfl,q⟩
  · unfold Hp.join at hk
    by_cases e:k=b
    · subst e;simp at hk;subst hk;exact ho
    · simp [e] at hk
      have hw:=a k u (by simp [Hp.join,e,hk])
      exact (h4 k (Array.getElem?_eq_some_iff.1 hw).1 e).trans hw
  · by_cases e:k=b
    · subst e;exact .inr hn
    · simp [e]
theorem setCell_same (w:World) (b i:Nat) (cs:Array Value) (t:TypeId) (fr:Nat×Nat) (v:Value) (hg:w.heap[b]? = some (.cells cs t fr)) :
    (w.setCell ⟨b,i,none⟩ v).heap[b]? = some (.cells (cs.setIfInBounds i v) t fr):=by
  simp only [World.setCell,Array.getElem?_modify,hg]
  simp
theorem Sat.setCell {b i:Nat} {cs:Array Value} {t:TypeId} {fr:Nat×Nat} (s:Sat w0 w (Blk b (.cells cs t fr)::l)) (v:Value) :
    Sat w0 (w.setCell ⟨b,i,none⟩ v) (Blk b (.cells (cs.setIfInBounds i v) t fr)::l) :=
  s.upd rfl rfl rfl (setCell_same w b i cs t fr v s.blk) (fun k _ hk=>heap_setCell_other w _ k v hk)
theorem Sat.setRow {b:Nat} {cs cs':Array Value} {t:TypeId} {fr:Nat×Nat} (s:Sat w0 w (Blk b (.cells cs t fr)::l)) :
    Sat w0 (w.setRow b cs') (Blk b (.cells cs' t fr)::l) :=
  s.upd rfl rfl rfl (setRow_heap w b cs cs' t fr s.blk) (fun k _ hk=>setRow_other w b k cs' hk)
/-- All that was there at w,but for the blocks of X. -/
def Old (W:World) (X:List Nat):HProp:=fun h=>h=fun k=>if k∈X then none else W.heap[k]?
theorem Sat.start (W:World):Sat W W [Old W []] :=
  ⟨rfl,rfl,rfl,⟨Nat.le_refl _,Nat.le_refl _⟩,_,fun k o hk=>hk,fun k=>W.heap[k]?,fun _=>none,disj_none _,(join_none _).symm,by simp [Old],fun _=>rfl⟩
theorem Sat.below (s:Sat w0 w (Old w0 []::l)):RowKit.Below w0.heap.size w0 w:=by
  obtain ⟨h,a,x,y,d,rfl,p,q⟩:=s.own
  unfold Old at p;subst p
  have hk:∀ k,k<w0.heap.size→w.heap[k]? = w0.heap[k]?:=fun k hk=>by
    obtain ⟨o,ho⟩:∃ o,w0.heap[k]? = some o:=⟨_,Array.getElem?_eq_getElem hk⟩
    rw [ho]
    refine a k o ?_
    simp [Hp.join,ho]
  exact ⟨s.os,s.tape,s.output,s.size.1,hk⟩
theorem Sat.take {W:World} {X:List Nat} {b:Nat} {o:Obj} (s:Sat w0 w (Old W X::l)) (hb:W.heap[b]? = some o) (hX:b∉X):Sat w0 w (Blk b o::Old W (b::X)::l):=by
  refine s.map fun h x=>?_
  obtain ⟨a,c,d,rfl,p,q⟩:=x
  unfold Old at p;subst p
  refine ⟨fun k=>if k=b then some o else none,Hp.join (fun k=>if k∈b::X then none else W.heap[k]?) c,?_,?_,rfl,_,c,?_,rfl,rfl,q⟩
  · intro k
    by_cases e:k=b
    · subst e
      right
      have:=d k
      simp [hX,hb] at this
      simp [Hp.join,this]
    · simp [e]
  · funext k
    by_cases e:k=b
    · subst e;simp [Hp.join,hX,hb]
    · simp [Hp.join,e]
  · intro k
    rcases d k with e | e
    · left
      by_cases e':k=b
      · simp [e']
      · simp only [List.mem_cons,e',false_or];exact e
    · exact .inr e
end
def arrB (n:Nat):List Nat→Bool
  | []=>true
  | i::r=>Nat.ble (i+1) n && !(r.contains i) && arrB n r
section
variable {w0 w:World} {l:List HProp}
theorem sat_dropA {a b c:List HProp} (s:Sat w0 w (a++(b++c))):Sat w0 w (a++c):=by
  have s2:Sat w0 w (b++(a++c)):=s.perm (by rw [←List.append_assoc,←List.append_assoc];exact List.perm_append_comm.append_right c)
  clear s
  induction b with
  | nil=>exact s2
  | cons x b ih=>exact ih s2.drop
theorem sat_range:∀ (n:Nat) {l:List HProp},Sat w0 w l→Sat w0 w ((List.range n).map (fun i=>l.getD i emp)++l.drop n)
  | 0,_,s=>s
  | n+1,l,s=>by
    have ih:=sat_range n s
    rw [List.range_succ,List.map_append,List.append_assoc]
    by_cases h:n<l.length
    · rw [List.drop_eq_getElem_cons h] at ih
      simpa [List.getD_eq_getElem?_getD,List.getElem?_eq_getElem h] using ih
    · have h1:l.getD n emp=emp:=by simp [List.getD_eq_getElem?_getD,List.getElem?_eq_none (Nat.le_of_not_lt h)]
      rw [List.drop_eq_nil_of_le (by omega)] at ih ⊢
      rw [List.map_singleton,h1]
      have:Sat w0 w (emp::((List.range n).map (fun i=>l.getD i emp)++[])):=ih.emp_cons
      exact this.perm (List.perm_middle (l₁:=(List.range n).map (fun i=>l.getD i emp)) (l₂:=([]:List HProp))).symm
theorem arr_perm {n:Nat}:∀ {is:List Nat},arrB n is=true→is.Nodup∧∀ i∈is,i<n
  | [],_=>⟨List.nodup_nil,fun i h=>by cases h⟩
  | i::r,h=>by
    simp only [arrB,Bool.and_eq_true,Bool.not_eq_true',Nat.ble_eq] at h
    obtain ⟨h1,h2⟩:=arr_perm h.2
    refine ⟨List.nodup_cons.2 ⟨?_,h1⟩,fun j hj=>?_⟩
    · intro hm
      have:=h.1.2
      simp [List.contains_iff_mem,hm] at this
    · rcases List.mem_cons.1 hj with rfl | hj
      · omega
      · exact h2 j hj
theorem nodup_sub_perm:∀ {is rs:List Nat},is.Nodup→(∀ i∈is,i∈rs)→∃ os,rs.Perm (is++os)
  | [],rs,_,_=>⟨rs,List.Perm.refl _⟩
  | i::r,rs,hd,hs=>by
    obtain ⟨hn,hd2⟩:=List.nodup_cons.1 hd
    have hi:=hs i List.mem_cons_self
    have h1:=List.perm_cons_erase hi
    obtain ⟨os,h2⟩:=nodup_sub_perm (is:=r) (rs:=rs.erase i) hd2 (fun j hj=>by
      have hne:j≠i:=fun e=>hn (e ▸ hj)
      exact (List.mem_erase_of_ne hne).2 (hs j (List.mem_cons_of_mem _ hj)))
    exact ⟨os,h1.trans (List.Perm.cons i h2)⟩
/-- of the first n conjuncts those of 'is',in its order;the rest of them is dropped -/
theorem Sat.arr (s:Sat w0 w l) (n:Nat) (is:List Nat) (h:arrB n is=true:=by rfl):Sat w0 w (is.map (fun i=>l.getD i emp)++l.drop n):=by
  obtain ⟨h1,h2⟩:=arr_perm h
  obtain ⟨os,hp⟩:=nodup_sub_perm (rs:=List.range n) h1 (fun i hi=>List.mem_range.2 (h2 i hi))
  have s2:=sat_range n s
  have s3:Sat w0 w (is.map (fun i=>l.getD i emp)++(os.map (fun i=>l.getD i emp)++l.drop n)):=by
    refine s2.perm ?_
    rw [←List.append_assoc,←List.map_append]
    exact (hp.map _).append_right _
  exact sat_dropA s3
end
/-- How elements lie in cells. -/
structure Enc (α:Type) where
  cells:α→List Value
  size:Nat
  len:∀ x,(cells x).length=size
  one:∀ x,∀ u∈cells x,u.oneCell'=true
  pos:0<size
section
variable {α:Type} (E:Enc α)
def Enc.flat (xs:List α):List Value:=xs.flatMap E.cells
theorem Enc.flat_nil:E.flat []=[]:=rfl
theorem Enc.flat_cons (x:α) (xs:List α):E.flat (x::xs)=E.cells x++E.flat xs:=rfl
theorem Enc.flat_append (xs ys:List α):E.flat (xs++ys)=E.flat xs++E.flat ys:=by simp [Enc.flat]
theorem Enc.flat_length (xs:List α):(E.flat xs).length=xs.length*E.size:=by
  induction xs with
  | nil=>simp [Enc.flat]
  | cons x xs ih=>rw [E.flat_cons,List.length_append,ih,E.len,List.length_cons,Nat.add_mul,Nat.one_mul,Nat.add_comm]
theorem Enc.flat_one (xs:List α):∀ u∈E.flat xs,u.oneCell'=true:=by
  intro u hu
  obtain ⟨x,_,h⟩:=List.mem_flatMap.1 hu
  exact E.one x u h
theorem Enc.flat_get (xs:List α) (i j:Nat) (hj:j<E.size) (hi:i<xs.length):(E.flat xs)[i*E.size+j]? = (E.cells xs[i])[j]?:=by
  induction xs generalizing i with
  | nil=>simp at hi
  | cons x xs ih =>
    rw [E.flat_cons]
    cases i with
    | zero =>
      rw [List.getElem?_append_left (by rw [E.len];omega)]
      simp
    | succ i =>
      rw [List.getElem?_append_right (by rw [E.len,Nat.add_mul];omega)]
      have:(i+1)*E.size+j-(E.cells x).length=i*E.size+j:=by rw [E.len,Nat.add_mul];omega
      rw [this]
      simpa using ih i (by simpa using hi)
theorem Enc.flat_set (xs:List α) (i j:Nat) (x:α) (hi:i<xs.length) (hj:j<E.size) (u:Value) (hx:E.cells x=(E.cells xs[i]).set j u) :
    (E.flat xs).set (i*E.size+j) u=E.flat (xs.set i x):=by
  induction xs generalizing i with
  | nil=>simp at hi
  | cons y xs ih =>
    cases i with
    | zero =>
      simp only [Nat.zero_mul,Nat.zero_add,List.set_cons_zero,E.flat_cons,hx,List.getElem_cons_zero]
      rw [List.set_append_left _ _ (by rw [E.len];exact hj)]
    | succ i =>
      simp only [List.set_cons_succ,E.flat_cons]
      rw [List.set_append_right _ _ (by rw [E.len,Nat.add_mul];omega)]
      have:(i+1)*E.size+j-(E.cells y).length=i*E.size+j:=by rw [E.len,Nat.add_mul];omega
      rw [this,ih i (by simpa using hi) (by simpa using hx)]
end
/-- No cell of the row is frozen. -/
def Free (n:Nat) (fr:Nat×Nat):Prop:=∀ i,i<n→¬ (fr.1≤i∧i<fr.2)
theorem Free.zero (n:Nat):Free n (0,0):=fun i _ h=>by simp at h
theorem Free.frozen {w:World} {g i:Nat} {cs:Array Value} {t:TypeId} {fr:Nat×Nat} (h:Free cs.size fr) (hg:w.heap[g]? = some (.cells cs t fr)) (hi:i<cs.size):w.frozen? ⟨g,i,none⟩=false:=by
  have:=h i hi
  simp only [World.frozen?,hg,Bool.and_eq_false_iff,decide_eq_false_iff_not]
  omega
theorem run_store_row (P:Program) (w:World) (g i:Nat) (cs:Array Value) (t:TypeId) (fr:Nat×Nat) (v:Value) (hg:w.heap[g]? = some (.cells cs t fr)) (hi:i<cs.size) (h1:v.oneCell'=true) (hf:Free cs.size fr) :
    (store ⟨g,i,none⟩ v).run P w=.ok () (w.setRow g (cs.setIfInBounds i v)):=by
  have hc:w.cell? ⟨g,i,none⟩=some cs[i]:=by simp [World.cell?,hg,hi]
  rw [run_store P w _ v _ h1,hc]
  simp only [hf.frozen hg hi]
  have:w.setCell ⟨g,i,none⟩ v=w.setRow g (cs.setIfInBounds i v):=setCell_eq_setRow w g i cs t fr v hg
  simp [this]
theorem run_storeCells_row (P:Program) (g o:Nat) (t:TypeId) (fr:Nat×Nat):∀ (vs:List Value) (i:Nat) (cur:Array Value) (w:World),w.heap[g]? = some (.cells cur t fr)→o+i+vs.length≤cur.size→(∀ v∈vs,v.oneCell'=true)→Free cur.size fr →
    (storeCells ⟨g,o,none⟩ vs i).run P w=.ok () (w.setRow g (cur.toList.take (o+i)++vs++cur.toList.drop (o+i+vs.length)).toArray)
  | [],i,cur,w,hg,_,_,_=>by
    simp only [storeCells,List.append_nil,List.length_nil,Nat.add_zero,List.take_append_drop,Array.toArray_toList]
    rw [setRow_self w g cur t fr hg]
    rfl
  | v::rest,i,cur,w,hg,hl,h1,hf=>by
    have hi:o+i<cur.size:=by simp at hl;omega
    have hadd:(⟨g,o,none⟩:Addr).add i=⟨g,o+i,none⟩:=by unfold Addr.add;split<;>simp_all
    have hst:=run_store_row P w g (o+i) cur t fr v hg hi (h1 v (by simp)) hf
    have hg':=setRow_heap w g cur (cur.setIfInBounds (o+i) v) t fr hg
    have ih:=run_storeCells_row P g o t fr rest (i+1) (cur.setIfInBounds (o+i) v) (w.setRow g (cur.setIfInBounds (o+i) v)) hg' (by simp at hl ⊢;omega) (fun u hu=>h1 u (by simp [hu])) (by simpa using hf)
    simp only [storeCells,Sem.run_bind,hadd,hst,Result.andThen_ok,ih]
    congr 1
    rw [setRow_setRow]
    congr 1
    apply Array.ext'
    simp only [Array.toList_setIfInBounds]
    have hL:o+i<cur.toList.length:=by simpa using hi
    have h1:(cur.toList.set (o+i) v).take (o+(i+1))=cur.toList.take (o+i)++[v]:=by
      rw [show o+(i+1)=(o+i)+1 by omega,List.take_add_one,List.take_set_of_le (Nat.le_refl _),List.getElem?_set_self hL]
      rfl
    have h2:(cur.toList.set (o+i) v).drop (o+(i+1)+rest.length)=cur.toList.drop (o+i+(v::rest).length):=by
      rw [List.drop_set_of_lt (by omega)]
      congr 1
      simp only [List.length_cons];omega
    rw [h1,h2]
    simp
/-- An owned slice: its block is its own. -/
def Row {α:Type} (e:TypeId) (E:Enc α) (v:Value) (xs:List α):HProp:=fun h =>
  (v=.slice none 0 0∧xs=[]∧emp h) ∨
  ∃ g off cap cur fr,v=.slice (some ⟨g,off,none⟩) xs.length cap∧xs.length≤cap∧cap≤maxLen∧off+cap*E.size≤cur.size ∧
    (cur.toList.drop off).take (xs.length*E.size)=E.flat xs∧Free cur.size fr∧Blk g (.cells cur e fr) h
section
variable {α:Type} {E:Enc α} {w0 w:World} {l:List HProp} {e:TypeId} {v:Value} {xs:List α}
theorem Sat.rowOpen (s:Sat w0 w (Row e E v xs::l)) :
    (v=.slice none 0 0∧xs=[]∧Sat w0 w l) ∨
    ∃ g off cap cur fr,v=.slice (some ⟨g,off,none⟩) xs.length cap∧xs.length≤cap∧cap≤maxLen∧off+cap*E.size≤cur.size ∧
      (cur.toList.drop off).take (xs.length*E.size)=E.flat xs∧Free cur.size fr∧Sat w0 w (Blk g (.cells cur e fr)::l):=by
  obtain ⟨h,a,x,y,d,rfl,p,q⟩:=s.own
  rcases p with ⟨h1,h2,h3⟩ | ⟨g,off,cap,cur,fr,h1,h2,h3,h4,h5,hf,h6⟩
  · refine .inl ⟨h1,h2,s.os,s.tape,s.output,s.size,_,a,?_⟩
    rw [emp_iff] at h3;subst h3
    exact q
  · exact .inr ⟨g,off,cap,cur,fr,h1,h2,h3,h4,h5,hf,s.os,s.tape,s.output,s.size,_,a,x,y,d,rfl,h6,q⟩
theorem Sat.rowNil (s:Sat w0 w l):Sat w0 w (Row e E (.slice none 0 0) ([]:List α)::l) :=
  (s.emp_cons).head fun _ h=>.inl ⟨rfl,rfl,h⟩
theorem Sat.rowMk {g off cap:Nat} {cur:Array Value} {fr:Nat×Nat} (s:Sat w0 w (Blk g (.cells cur e fr)::l)) (hf:Free cur.size fr) (h2:xs.length≤cap) (h3:cap≤maxLen) (h4:off+cap*E.size≤cur.size)
    (h5:(cur.toList.drop off).take (xs.length*E.size)=E.flat xs):Sat w0 w (Row e E (.slice (some ⟨g,off,none⟩) xs.length cap) xs::l) :=
  s.head fun _ h=>.inr ⟨g,off,cap,cur,fr,rfl,h2,h3,h4,h5,hf,h⟩
theorem Sat.rowSlice (s:Sat w0 w (Row e E v xs::l)):∃ ao c,v=.slice ao xs.length c∧xs.length≤c:=by
  rcases s.rowOpen with ⟨rfl,rfl,_⟩ | ⟨g,off,cap,cur,fr,rfl,h,_⟩
  · exact ⟨none,0,rfl,Nat.le_refl _⟩
  · exact ⟨_,cap,rfl,h⟩
/-- The cells of an owned slice. -/
theorem Sat.rowCells (s:Sat w0 w (Row e E v xs::l)):∀ ao n c,v=.slice ao n c→(ao=none→xs=[])∧∀ ad,ao=some ad→∀ j u,(E.flat xs)[j]? = some u→w.cell? (ad.add j)=some u:=by
  intro ao n c hv
  rcases s.rowOpen with ⟨rfl,rfl,_⟩ | ⟨g,off,cap,cur,fr,rfl,h2,h3,h4,h5,hf0,s'⟩
  · injection hv with h1 _ _
    subst h1
    exact ⟨fun _=>rfl,fun ad h=>(by cases h)⟩
  · injection hv with h1 _ _
    subst h1
    refine ⟨fun h=>(by cases h),fun ad h=>?_⟩
    cases h
    intro j u hu
    have hadd:(⟨g,off,none⟩:Addr).add j=⟨g,off+j,none⟩:=by unfold Addr.add;split<;>simp_all
    rw [hadd,cell_of_row w g (off+j) cur e fr s'.blk]
    rw [←h5] at hu
    obtain ⟨hj,_⟩:=List.getElem?_eq_some_iff.1 hu
    have hj':j<xs.length*E.size:=by simp at hj;omega
    rw [List.getElem?_take_of_lt hj',List.getElem?_drop] at hu
    simpa using hu
variable {P:Program}
/-- append: whatever is there at the source. -/
theorem run_append_row {ty t:TypeId} {i:TypeInfo} {z:Value} {bytes:Nat} (ht:P.underlying t=some (.slice e)) (hi:P.info? e=some i) (hz:i.zero=some z) (hsize:i.size=E.size) (hby:i.bytes=bytes) (hzs:z.cells.size=E.size)
    (s:Sat w0 w (Row e E v xs::l)) (ao:Option Addr) (m c:Nat) (ys:List α) (hm:ys.length=m) (hn:ao=none→ys=[])
    (hnews:∀ ad,ao=some ad→∀ j u,(E.flat ys)[j]? = some u→w.cell? (ad.add j)=some u) (hb:(xs.length+m)*bytes≤140737488355328) (hml:xs.length+m≤maxLen) :
    ∃ v' w',(Builtin.append_ #[t,t] ty #[v,.slice ao m c]).run P w=.ok v' w'∧Sat w0 w' (Row e E v' (xs++ys)::l):=by
  subst hm
  have hlen:(E.flat ys).length=ys.length*i.size:=by rw [E.flat_length,hsize]
  have hle:xs.length+ys.length≤9223372036854775807:=by simpa [maxLen] using hml
  cases ao with
  | none =>
    have hy:=hn rfl
    subst hy
    simp only [List.append_nil,List.length_nil]
    rcases s.rowOpen with ⟨rfl,rfl,s'⟩ | ⟨g,off,cap,cur,fr,rfl,h2,h3,h4,h5,hf0,s'⟩
    · exact ⟨_,w,by simp [Builtin.append_,run_underlying ht,sizeOf,typeInfo,hi,Builtin.lenOf,Builtin.firstCells],s⟩
    · exact ⟨_,w,by simp [Builtin.append_,run_underlying ht,sizeOf,typeInfo,hi,Builtin.lenOf,Builtin.firstCells,h2,storeCells],s⟩
  | some ad =>
    have hnews':=hnews ad rfl
    rcases s.rowOpen with ⟨rfl,rfl,s'⟩ | ⟨g,off,cap,cur,fr,rfl,h2,h3,h4,h5,hf0,s'⟩
    · by_cases hm:ys.length=0
      · have hy:ys=[]:=List.eq_nil_of_length_eq_zero hm
        subst hy
        exact ⟨_,w,by simp [Builtin.append_,run_underlying ht,sizeOf,typeInfo,hi,Builtin.lenOf,Builtin.firstCells,loadCells,loadCellsFrom],s⟩
      · have hr:=run_append_nil (P:=P) w t ty e i z ht hi hz ad ys.length c (E.flat ys) hlen hnews' (by omega) (by simp at hle;omega) (by rw [hby];simp at hb;omega)
        refine ⟨_,_,hr,?_⟩
        have hge:=grownCap_ge w ys.length 0 e
        have hcm:=grownCap_le_maxLen w ys.length 0 e (by simpa using hml)
        have:=(s'.drew.alloc (.cells ((E.flat ys).toArray++Builtin.zeroCells z.cells (grownCap w ys.length 0 e-ys.length)) e)).rowMk (E:=E) (xs:=ys) (off:=0) (cap:=grownCap w ys.length 0 e) (Free.zero _) hge hcm
          (by simp only [Array.size_append,List.size_toArray,size_zeroCells,hzs,E.flat_length,←Nat.add_mul,Nat.zero_add];apply Nat.mul_le_mul_right;omega)
          (by simp only [Array.toList_append,List.drop_zero];rw [←E.flat_length];exact List.take_left)
        simpa using this
    · by_cases hroom:xs.length+ys.length≤cap
      · have hf:=run_firstCells_some (P:=P) w i.size ys.length ad ys.length c (E.flat ys) hlen hnews'
        have hfit:off+xs.length*E.size+(E.flat ys).length≤cur.size:=by
          rw [E.flat_length,Nat.add_assoc,←Nat.add_mul]
          have:=Nat.mul_le_mul_right E.size hroom
          omega
        have hst:=run_storeCells_row P g (off+xs.length*E.size) e fr (E.flat ys) 0 cur w s'.blk (by simpa using hfit) (E.flat_one ys) hf0
        have hadd:(⟨g,off,none⟩:Addr).add (xs.length*E.size)=⟨g,off+xs.length*E.size,none⟩:=by unfold Addr.add;split<;>simp_all
        refine ⟨.slice (some ⟨g,off,none⟩) (xs++ys).length cap,_,?_,(s'.setRow (cs':=(cur.toList.take (off+xs.length*E.size)++E.flat ys++cur.toList.drop (off+xs.length*E.size+(E.flat ys).length)).toArray)).rowMk ?_ (by simpa using hroom) h3 ?_ ?_⟩
        · simp only [Nat.add_zero] at hst
          rw [hsize] at hf
          simp only [List.append_assoc] at hst
          simp [Builtin.append_,run_underlying ht,sizeOf,typeInfo,hi,Builtin.lenOf,hroom,hf,hsize,hadd,hst]
        · have hsz:((cur.toList.take (off+xs.length*E.size)++E.flat ys++cur.toList.drop (off+xs.length*E.size+(E.flat ys).length)).toArray).size=cur.size:=by
            simp only [List.size_toArray,List.length_append,List.length_take,List.length_drop,Array.length_toList]
            omega
          rw [hsz];exact hf0
        · simp only [List.size_toArray,List.length_append,List.length_take,List.length_drop,Array.length_toList]
          omega
        · have hxl:(cur.toList.take (off+xs.length*E.size)).drop off=E.flat xs:=by
            rw [List.drop_take,←h5]
            congr 1
            omega
          have ht1:(cur.toList.take (off+xs.length*E.size)).length=off+xs.length*E.size:=by
            have hx:=Nat.mul_le_mul_right E.size h2
            have hy:cur.toList.length=cur.size:=by simp
            rw [List.length_take];omega
          rw [List.append_assoc,List.drop_append_of_le_length (by rw [ht1];omega),hxl,←List.append_assoc,←E.flat_append]
          rw [List.take_append_of_le_length (by rw [E.flat_length];exact Nat.le_refl _),List.take_of_length_le (by rw [E.flat_length];exact Nat.le_refl _)]
      · have holds:∀ j u,(E.flat xs)[j]? = some u→w.cell? ((⟨g,off,none⟩:Addr).add j)=some u:=(s.rowCells _ _ _ rfl).2 _ rfl
        have hr:=run_append_grow (P:=P) w t ty e i z ht hi hz ⟨g,off,none⟩ xs.length cap (E.flat xs) (by rw [E.flat_length,hsize]) holds ad ys.length c (E.flat ys) hlen hnews' (by omega) (by omega) (growslice_fits (by omega) (by rw [hby];exact hb))
        refine ⟨_,_,hr,?_⟩
        have hge:=grownCap_ge w (xs.length+ys.length) cap e
        have hcm:=grownCap_le_maxLen w (xs.length+ys.length) cap e hml
        have:=(s'.drop.drew.alloc (.cells ((E.flat xs).toArray++(E.flat ys).toArray++Builtin.zeroCells z.cells (grownCap w (xs.length+ys.length) cap e-(xs.length+ys.length))) e)).rowMk (E:=E) (xs:=xs++ys) (off:=0) (cap:=grownCap w (xs.length+ys.length) cap e) (Free.zero _) (by simpa using hge) hcm
          (by simp only [Array.size_append,List.size_toArray,size_zeroCells,hzs,E.flat_length,←Nat.add_mul,Nat.zero_add];apply Nat.mul_le_mul_right;omega)
          (by simp only [Array.toList_append,List.drop_zero,List.append_assoc];rw [←List.append_assoc,←E.flat_append,←E.flat_length];exact List.take_left)
        simpa using this
end
abbrev Fr:=Nat→Value
def upd (f:Fr) (d:Nat) (v:Value):Fr:=fun t=>bif Nat.beq t d then v else f t
def updo (f:Fr):Option Nat→Value→Fr
  | some d,v=>upd f d v
  | none,_=>f
def ev (f:Fr):Operand→Value
  | .tmp t=>f t
  | .const v=>v
  | .global g=>.pointer (some ⟨g,0,none⟩)
  | .func n=>.func (.func n) #[] #[]
structure Rep (n:Nat) (a:Act) (f:Fr):Prop where
  size:a.tmps.size=n
  get:∀ t,a.tmps.getD t undef=f t
  defers:a.defers=[]
theorem Rep.eval {n:Nat} {a:Act} {f:Fr} (r:Rep n a f) (x:Operand):a.eval x=ev f x:=by
  cases x<;>simp [Act.eval,ev,←r.get]
theorem beq_ne {t d:Nat} (h:¬ t=d):Nat.beq t d=false:=by
  cases e:Nat.beq t d with
  | false=>rfl
  | true=>exact absurd (Nat.eq_of_beq_eq_true e) h
theorem Rep.put {n:Nat} {a:Act} {f:Fr} (r:Rep n a f) {d:Nat} (hd:Nat.ble (d+1) n=true) (v:Value):Rep n (a.put (some d) v) (upd f d v):=by
  have hd':d<n:=Nat.le_of_ble_eq_true hd
  refine ⟨by simp [Act.put,r.size],fun t=>?_,r.defers⟩
  unfold upd
  by_cases h:t=d
  · subst h
    have:Nat.beq t t=true:=by simp
    simp [Act.put,r.size,hd',this]
  · have h2:Nat.beq t d=false:=beq_ne h
    rw [h2,←r.get t]
    simp only [Act.put,cond_false,Array.getD_eq_getD_getElem?]
    rw [Array.getElem?_setIfInBounds_ne (Ne.symm h)]
def dok (n:Nat):Option Nat→Bool
  | some d=>Nat.ble (d+1) n
  | none=>true
theorem Rep.puto {n:Nat} {a:Act} {f:Fr} (r:Rep n a f) {d:Option Nat} (hd:dok n d=true) (v:Value):Rep n (a.put d v) (updo f d v):=by
  cases d with
  | none=>exact r
  | some d=>exact r.put hd v
theorem upd_self (f:Fr) (d:Nat):upd f d (f d)=f:=by
  funext t
  unfold upd
  by_cases h:t=d
  · subst h;simp
  · have h2:Nat.beq t d=false:=beq_ne h
    rw [h2];rfl
section
variable (P:Program) (w0:World) (n:Nat)
def OL (ops:Array Oper) (Q:Exit→Act→World→Prop) (rest:List Oper) (f:Fr) (l:List HProp):Prop:=∀ a w,Rep n a f→Sat w0 w l→wpList P ops Q rest a w
def CD (c:Code) (Q:Exit→Act→World→Prop) (f:Fr) (l:List HProp):Prop:=∀ a w,Rep n a f→Sat w0 w l→c.wp P Q a w
def PX (e:Exit) (Q:Exit→Act→World→Prop) (f:Fr) (l:List HProp):Prop:=∀ a w,Rep n a f→Sat w0 w l→Q e a w
end
section
variable {P:Program} {w0:World} {n:Nat} {Q:Exit→Act→World→Prop} {f:Fr} {l l':List HProp} {ops:Array Oper}
theorem cd_seq {x y:Code} (h:CD P w0 n x (Exit.then (y.wp P Q) Q) f l):CD P w0 n (.seq x y) Q f l:=fun a w r s=>wp_seq (h a w r s)
theorem cd_region {id:Nat} {lo:List Oper} (h:OL P w0 n lo.toArray Q lo f l):CD P w0 n (.region id lo.toArray false) Q f l:=fun a w r s=>wp_region_lit (h a w r s)
theorem cd_sr {id:Nat} {lo:List Oper} {y:Code} (h:OL P w0 n lo.toArray (Exit.then (y.wp P Q) Q) lo f l):CD P w0 n (.seq (.region id lo.toArray false) y) Q f l:=cd_seq (cd_region h)
theorem cd_skip (h:PX w0 n .normal Q f l):CD P w0 n .skip Q f l:=fun a w r s=>wp_skip (h a w r s)
theorem cd_ret (h:PX w0 n .ret Q f l):CD P w0 n .ret Q f l:=fun a w r s=>wp_ret (h a w r s)
theorem cd_exit {id:Nat} (h:PX w0 n (.exit id) Q f l):CD P w0 n (.exit id) Q f l:=fun a w r s=>wp_exit (h a w r s)
theorem cd_block {id:Nat} {c:Code} (h:CD P w0 n c (Exit.inBlock id Q) f l):CD P w0 n (.block id c) Q f l:=fun a w r s=>wp_block (h a w r s)
theorem cd_cond {c:Operand} {x y:Code} {b:Bool} (hc:ev f c=.bool b) (ht:b=true→CD P w0 n x Q f l) (hf:b=false→CD P w0 n y Q f l):CD P w0 n (.cond c x y) Q f l :=
  fun a w r s=>wp_cond_split ((r.eval c).trans hc) (fun e=>ht e a w r s) (fun e=>hf e a w r s)
theorem cd_cond_t {c:Operand} {x y:Code} {b:Bool} (hc:ev f c=.bool b) (hb:b=true) (ht:CD P w0 n x Q f l):CD P w0 n (.cond c x y) Q f l :=
  cd_cond hc (fun _=>ht) (fun e=>by rw [hb] at e;cases e)
theorem cd_cond_f {c:Operand} {x y:Code} {b:Bool} (hc:ev f c=.bool b) (hb:b=false) (hf:CD P w0 n y Q f l):CD P w0 n (.cond c x y) Q f l :=
  cd_cond hc (fun e=>by rw [hb] at e;cases e) (fun _=>hf)
theorem px_then {y:Code} (h:CD P w0 n y Q f l):PX w0 n .normal (Exit.then (y.wp P Q) Q) f l:=h
theorem px_thenE {K:Act→World→Prop} {id:Nat} (h:PX w0 n (.exit id) Q f l):PX w0 n (.exit id) (Exit.then K Q) f l:=h
theorem px_thenR {K:Act→World→Prop} (h:PX w0 n .ret Q f l):PX w0 n .ret (Exit.then K Q) f l:=h
theorem px_blockN {id:Nat} (h:PX w0 n .normal Q f l):PX w0 n .normal (Exit.inBlock id Q) f l:=h
theorem px_blockR {id:Nat} (h:PX w0 n .ret Q f l):PX w0 n .ret (Exit.inBlock id Q) f l:=h
theorem px_blockE {id:Nat} (h:PX w0 n .normal Q f l):PX w0 n (.exit id) (Exit.inBlock id Q) f l:=fun a w r s=>by simp only [Exit.inBlock,if_true];exact h a w r s
theorem px_blockEn {id id':Nat} (hne:Nat.beq id' id=false) (h:PX w0 n (.exit id') Q f l):PX w0 n (.exit id') (Exit.inBlock id Q) f l:=fun a w r s=>by
  have:¬ id'=id:=by intro e;subst e;simp at hne
  simp only [Exit.inBlock,this,if_false];exact h a w r s
theorem ol_nil (h:PX w0 n .normal Q f l):OL P w0 n ops Q [] f l:=h
theorem ol_pull (i:Nat) {rest:List Oper} (h:OL P w0 n ops Q rest f (l.getD i emp::l.eraseIdx i)):OL P w0 n ops Q rest f l:=fun a w r s=>h a w r (s.pull i)
theorem cd_pull (i:Nat) {c:Code} (h:CD P w0 n c Q f (l.getD i emp::l.eraseIdx i)):CD P w0 n c Q f l:=fun a w r s=>h a w r (s.pull i)
theorem calls_enter {k:FuncId} {fn:Func} {c:Code} {args:Array Value} {w:World} {R:Ending→World→Prop} (hf:P.funcs[k]? = some fn) (hb:fn.body=some c) (hn:fn.ntmps=n) (hs:Nat.ble args.size n=true) (s:Sat w0 w l)
    (h:CD P w0 n c (bodyPost P fn R) (fun t=>args.getD t undef) l):Calls P k args w R:=by
  have hs':args.size≤n:=Nat.le_of_ble_eq_true hs
  refine calls_of_wp hf hb (h _ _ ⟨by simp [hn];omega,fun t=>?_,rfl⟩ s)
  simp only [Array.getD_eq_getD_getElem?]
  rcases Nat.lt_or_ge t args.size with h1 | h1
  · rw [Array.getElem?_append_left h1]
  · rw [Array.getElem?_append_right h1,Array.getElem?_eq_none h1]
    rcases Nat.lt_or_ge (t-args.size) (fn.ntmps-args.size) with h2 | h2
    · simp [h2]
    · simp [Nat.not_lt.2 h2]
def Agree (f:Fr):List (Nat×Value)→Prop
  | []=>True
  | (t,v)::r=>f t=v∧Agree f r
def upds (f:Fr):List (Nat×Value)→Fr
  | []=>f
  | (t,v)::r=>upd (upds f r) t v
theorem upds_agree {f:Fr}:∀ {L:List (Nat×Value)},Agree f L→upds f L=f
  | [],_=>rfl
  | (t,v)::r,⟨h,h'⟩=>by
    simp only [upds,upds_agree h']
    rw [←h];exact upd_self f t
def LN (w0:World) (n:Nat) {α:Type} (S:α→List (Nat×Value)) (L:α→List HProp) (φ:α→Prop) (m:α→Nat) (k:Nat):Act→World→Prop :=
  fun a w=>∃ y f,φ y∧m y<k∧Agree f (S y)∧Rep n a f∧Sat w0 w (L y)
theorem least {G:Nat→Prop} (h:∃ k,G k):∃ k,G k∧∀ j,G j→k≤j:=by
  obtain ⟨k,hk⟩:=h
  induction k using Nat.strongRecOn with
  | _ k ih =>
    by_cases hj:∃ j,j<k∧G j
    · obtain ⟨j,hlt,hg⟩:=hj
      exact ih j hlt hg
    · exact ⟨k,hk,fun j hg=>Nat.le_of_not_lt fun hlt=>hj ⟨j,hlt,hg⟩⟩
theorem cd_loop {α:Type} {body:Code} (S:α→List (Nat×Value)) (L:α→List HProp) (φ:α→Prop) (m:α→Nat) (x:α) (h0:φ x) (hf:Agree f (S x)) (hl:∀ w,Sat w0 w l→Sat w0 w (L x))
    (round:∀ x,φ x→∀ f,CD P w0 n body (Exit.then (LN w0 n S L φ m (m x)) Q) (upds f (S x)) (L x)):CD P w0 n (.loop body) Q f l:=by
  intro a w r s
  let G:Act→World→Nat→Prop:=fun a w k=>∃ y f,φ y∧m y=k∧Agree f (S y)∧Rep n a f∧Sat w0 w (L y)
  refine wp_loop (fun a w=>∃ k,G a w k) (fun a w=>Classical.epsilon fun k=>G a w k∧∀ j,G a w j→k≤j) ⟨m x,x,f,h0,rfl,hf,r,hl w s⟩ ?_
  intro a w hI
  have hG:=Classical.epsilon_spec (p:=fun k=>G a w k∧∀ j,G a w j→k≤j) (least hI)
  generalize (Classical.epsilon fun k=>G a w k∧∀ j,G a w j→k≤j)=k at hG ⊢
  obtain ⟨⟨y,f',hy,hm,hA,hr,hs⟩,_⟩:=hG
  have hr':Rep n a (upds f' (S y)):=by rw [upds_agree hA];exact hr
  have:=round y hy f' a w hr' hs
  refine wp_mono this fun e a' w' hq=>?_
  cases e with
  | normal =>
    obtain ⟨z,f'',hz,hlt,hA',hr'',hs'⟩:=hq
    have hex:∃ k,G a' w' k:=⟨m z,z,f'',hz,rfl,hA',hr'',hs'⟩
    refine ⟨hex,?_⟩
    have h1:=(Classical.epsilon_spec (p:=fun k=>G a' w' k∧∀ j,G a' w' j→k≤j) (least hex)).2 (m z) ⟨z,f'',hz,rfl,hA',hr'',hs'⟩
    omega
  | _=>exact hq
theorem px_loop {α:Type} {S:α→List (Nat×Value)} {L:α→List HProp} {φ:α→Prop} {m:α→Nat} {k:Nat} (y:α) (h1:φ y) (h2:m y<k) (h3:Agree f (S y)) (h4:∀ w,Sat w0 w l→Sat w0 w (L y)) :
    PX w0 n .normal (Exit.then (LN w0 n S L φ m k) Q) f l:=fun _ w r s=>⟨y,f,h1,h2,h3,r,h4 w s⟩
end
def fieldB (P:Program) (T i:Nat):Option Nat :=
  match P.underlying T with
  | some (.struct fs)=>match fs[i]? with
    | some fd=>match P.info? fd.type with
      | some q=>if q.size=0 then none else some fd.offset
      | none=>none
    | none=>none
  | _=>none
def scalarB (P:Program) (T:Nat):Bool :=
  match P.underlying T with
  | some (.struct _) | some (.array _ _)=>false
  | some _=>match P.info? T with
    | some q=>q.size == 1
    | none=>false
  | none=>false
def aggB (P:Program) (T:Nat):Option Nat :=
  match P.underlying T with
  | some (.struct _) | some (.array _ _)=>(P.info? T).map (·.size)
  | _=>none
def callB (P:Program) (k:Nat):Bool :=
  match P.funcs[k]? with
  | some fn=>!(fn.name == "runtime.NumGoroutine") && fn.body.isSome
  | none=>false
def sliceB (P:Program) (T:Nat):Option (Nat×Nat×Nat) :=
  match P.underlying T with
  | some (.slice e)=>(P.info? e).map fun i=>(e,i.size,i.bytes)
  | _=>none
section
variable (P:Program) (w0:World) (n:Nat)
/-- a quiet operation's value -/
def OP (o:Oper) (f:Fr) (l:List HProp) (v:Value):Prop:=∀ M a w,Rep n a f→Sat w0 w (M++l)→(execOp a.eval o).run P w=.ok (.value v) w
def Wn (ops:Array Oper) (o:Oper) (f:Fr) (b:Bool):Prop:=∀ a,Rep n a f→Region.wanted o (yielded ops a.tmps)=b
/-- what a run comes to -/
def gives (K:Value→World→Prop):Result Next→Prop
  | .ok (.value v) w'=>K v w'
  | .ok .skip w'=>K undef w'
  | .ok (.enter k args) w'=>Calls P k args w' fun e w''=>∃ v,e=.returned v∧K v w''
  | _=>False
/-- an operation that changes the context -/
def OS (o:Oper) (f:Fr) (l:List HProp) (R:Value→List HProp→Prop):Prop :=
  ∀ a w,Rep n a f→Sat w0 w l→gives P (fun v w'=>∃ l',R v l'∧Sat w0 w' l') ((execOp a.eval o).run P w)
end
theorem gives.mono {P:Program} {K K':Value→World→Prop} {r:Result Next} (h:gives P K r) (hk:∀ v w,K v w→K' v w):gives P K' r:=by
  cases r with
  | ok nx w1 =>
    cases nx<;>simp only [gives] at h ⊢
    case value v=>exact hk _ _ h
    case skip=>exact hk _ _ h
    case enter k args=>exact h.mono fun e w ⟨v,he,hv⟩=>⟨v,he,hk _ _ hv⟩
  | halt x w1=>exact h.elim
theorem gives.wp {P:Program} {K:Value→World→Prop} {o:Oper} {a:Act} {w:World} (h:gives P K ((execOp a.eval o).run P w)) {K':Act→World→Prop} (Q:Exit→Act→World→Prop) (hk:∀ v w',K v w'→K' (a.put o.dst v) w'):o.wp P a w K' Q:=by
  unfold Oper.wp
  generalize (execOp a.eval o).run P w=r at h
  cases r with
  | ok nx w1 =>
    cases nx<;>simp only [gives] at h<;>simp only [Oper.upon]
    case value v=>exact hk _ _ h
    case skip=>exact hk _ _ h
    case enter k args=>exact h.mono fun e w ⟨v,he,hv⟩=>by subst he;exact hk _ _ hv
  | halt x w1=>exact h.elim
theorem calls_ex {P:Program} {k:FuncId} {args:Array Value} {w:World} {R:Ending→World→Prop} (h:Calls P k args w R):∃ e w',R e w' :=
  let ⟨e,w',_,hR,_⟩:=h []
  ⟨e,w',hR⟩
theorem gives.ex {P:Program} {K:Value→World→Prop} {r:Result Next} (h:gives P K r):∃ v w,K v w:=by
  cases r with
  | ok nx w1 =>
    cases nx<;>simp only [gives] at h
    case value v=>exact ⟨_,_,h⟩
    case skip=>exact ⟨_,_,h⟩
    case enter k args =>
      obtain ⟨e,w',v,_,hv⟩:=calls_ex h
      exact ⟨_,_,hv⟩
  | halt x w1=>exact h.elim
section
variable {P:Program} {w0:World} {n:Nat} {Q:Exit→Act→World→Prop} {f:Fr} {l l':List HProp} {ops:Array Oper} {rest:List Oper} {o:Oper}
theorem wn_none (hg:o.guard=none):Wn n ops o f true:=fun a r=>by simp [Region.wanted,hg]
theorem wn_undef {j d:Nat} {want:Bool} (hg:o.guard=some (j,want)) (ho:(ops[j]?).bind (·.dst)=some d) (hf:f d=undef) (h0:undef=undef):Wn n ops o f false:=fun a r=>by
  have h1:=r.get d
  rw [hf] at h1
  have h2:a.tmps[d]? = none∨a.tmps[d]? = some undef:=by
    rw [Array.getD_eq_getD_getElem?] at h1
    cases h3:a.tmps[d]? with
    | none=>exact .inl rfl
    | some v=>rw [h3] at h1;right;simpa using h1
  rcases h2 with h2 | h2<;>simp [Region.wanted,hg,yielded,ho,h2,undef]
theorem wn_some {j d:Nat} {want c c' b:Bool} (hg:o.guard=some (j,want)) (ho:(ops[j]?).bind (·.dst)=some d) (hf:f d=.bool c) (hc:c=c') (hb:(c' == want)=b):Wn n ops o f b:=fun a r=>by
  have h1:=r.get d
  rw [hf] at h1
  have h2:a.tmps[d]? = some (.bool c):=by
    rw [Array.getD_eq_getD_getElem?] at h1
    cases h3:a.tmps[d]? with
    | none=>rw [h3] at h1;simp [undef] at h1
    | some v=>rw [h3] at h1;simpa using h1
  subst hc
  simp [Region.wanted,hg,yielded,ho,h2,←hb]
theorem ol_q0 {v:Value} (hw:Wn n ops o f true) (h:OP P w0 n o f l v) (hd:dok n o.dst=true) (k:OL P w0 n ops Q rest (updo f o.dst v) l):OL P w0 n ops Q (o::rest) f l:=fun a w r s=>by
  unfold wpList
  rw [if_pos (hw a r)]
  refine .inl ?_
  unfold Oper.wp
  rw [h [] a w r s]
  exact k _ _ (r.puto hd v) s
theorem ol_skip0 (hw:Wn n ops o f false) (hd:dok n o.dst=true) (k:OL P w0 n ops Q rest (updo f o.dst undef) l):OL P w0 n ops Q (o::rest) f l:=fun a w r s=>by
  unfold wpList
  rw [if_neg (by rw [hw a r];simp)]
  exact k _ _ (r.puto hd undef) s
theorem ol_i0 {R:Value→List HProp→Prop} (hw:Wn n ops o f true) (h:OS P w0 n o f l R) (hd:dok n o.dst=true) (k:∀ v l',R v l'→OL P w0 n ops Q rest (updo f o.dst v) l'):OL P w0 n ops Q (o::rest) f l:=fun a w r s=>by
  unfold wpList
  rw [if_pos (hw a r)]
  exact .inl ((h a w r s).wp Q fun v w' ⟨l',hR,s'⟩=>k v l' hR _ _ (r.puto hd v) s')
section
variable {d:Nat} {op:Op} {ty:TypeId} {pos:String} {aft:Array Edge} {g:Option (Nat×Bool)}
theorem ol_q {v:Value} (hw:Wn n ops ⟨some d,op,ty,pos,aft,g⟩ f true) (h:OP P w0 n ⟨some d,op,ty,pos,aft,g⟩ f l v) (hd:Nat.ble (d+1) n=true) (k:OL P w0 n ops Q rest (upd f d v) l):OL P w0 n ops Q (⟨some d,op,ty,pos,aft,g⟩::rest) f l:=ol_q0 hw h hd k
theorem ol_skip (hw:Wn n ops ⟨some d,op,ty,pos,aft,g⟩ f false) (hd:Nat.ble (d+1) n=true) (k:OL P w0 n ops Q rest (upd f d undef) l):OL P w0 n ops Q (⟨some d,op,ty,pos,aft,g⟩::rest) f l:=ol_skip0 hw hd k
theorem ol_i {R:Value→List HProp→Prop} (hw:Wn n ops ⟨some d,op,ty,pos,aft,g⟩ f true) (h:OS P w0 n ⟨some d,op,ty,pos,aft,g⟩ f l R) (hd:Nat.ble (d+1) n=true) (k:∀ v l',R v l'→OL P w0 n ops Q rest (upd f d v) l'):OL P w0 n ops Q (⟨some d,op,ty,pos,aft,g⟩::rest) f l:=ol_i0 hw h hd k
theorem ol_iN {R:Value→List HProp→Prop} (hw:Wn n ops ⟨none,op,ty,pos,aft,g⟩ f true) (h:OS P w0 n ⟨none,op,ty,pos,aft,g⟩ f l R) (k:∀ v l',R v l'→OL P w0 n ops Q rest f l'):OL P w0 n ops Q (⟨none,op,ty,pos,aft,g⟩::rest) f l:=ol_i0 hw h rfl k
end
end
section
variable {P:Program} {w0:World} {n:Nat} {f:Fr} {l l':List HProp} {d:Option Tmp} {ty:TypeId} {pos:String} {aft:Array Edge} {g:Option (Nat×Bool)} {x y:Operand} {v u:Value}
theorem op_move (hv:ev f x=v):OP P w0 n ⟨d,.move x,ty,pos,aft,g⟩ f l v:=fun M a w r s=>by simp [execOp,r.eval,hv]
theorem op_assign (hv:ev f x=v):OP P w0 n ⟨d,.assign x,ty,pos,aft,g⟩ f l v:=fun M a w r s=>by simp [execOp,r.eval,hv]
theorem op_pick_t {c:Operand} {b:Bool} (hc:ev f c=.bool b) (hb:b=true) (hv:ev f x=v):OP P w0 n ⟨d,.pick c x y,ty,pos,aft,g⟩ f l v:=fun M a w r s=>by
  subst hb;simp [execOp,r.eval,hv,hc,asBool]
theorem op_pick_f {c:Operand} {b:Bool} (hc:ev f c=.bool b) (hb:b=false) (hv:ev f y=v):OP P w0 n ⟨d,.pick c x y,ty,pos,aft,g⟩ f l v:=fun M a w r s=>by
  subst hb;simp [execOp,r.eval,hv,hc,asBool]
theorem op_nilck {a0:Addr} (hv:ev f x=.pointer (some a0)):OP P w0 n ⟨d,.nilCheck x,ty,pos,aft,g⟩ f l (.pointer (some a0)):=fun M a w r s=>by
  simp [execOp,r.eval,hv]
theorem op_field {T i k b off:Nat} (hB:fieldB P T i=some k) (hx:ev f x=.pointer (some ⟨b,off,none⟩)):OP P w0 n ⟨d,.fieldAddr T x i,ty,pos,aft,g⟩ f l (.pointer (some ⟨b,off+k,none⟩)):=fun M a w r s=>by
  unfold fieldB at hB
  split at hB
  · rename_i fs hu
    split at hB
    · rename_i fd hf
      split at hB
      · rename_i q hq
        split at hB
        · cases hB
        · rename_i hz
          cases hB
          have hadd:(⟨b,off,none⟩:Addr).add fd.offset=⟨b,off+fd.offset,none⟩:=by unfold Addr.add;split<;>simp_all
          simp [execOp,r.eval,hx,Instr.fieldAt,run_underlying hu,hf,Instr.sureAddr,fieldPlace,sizeOf,typeInfo,hq,hz,hadd]
      · cases hB
    · cases hB
  · cases hB
theorem heap_of {M:List HProp} {w:World} (i:Nat) {b:Nat} {o:Obj} (s:Sat w0 w (M++l)) (hl:l[i]? = some (Blk b o)):w.heap[b]? = some o :=
  s.at (M.length+i) (by rw [List.getElem?_append_right (by omega)];simpa using hl)
theorem isAgg_scalar {T:Nat} (h:scalarB P T=true) (w:World):(isAgg T).run P w=.ok false w∧(sizeOf T).run P w=.ok 1 w:=by
  unfold scalarB at h
  unfold isAgg sizeOf typeInfo
  constructor
  · rw [Sem.run_bind]
    cases hu:P.underlying T with
    | none=>simp [hu] at h
    | some q=>rw [run_underlying hu w];cases q<;>simp_all
  · cases hq:P.info? T with
    | none=>split at h<;>simp_all
    | some q =>
      have:q.size=1:=by
        split at h
        · cases h
        · cases h
        · simpa [hq] using h
        · cases h
      simp [hq,this]
theorem isAgg_agg {T k:Nat} (h:aggB P T=some k) (w:World):(isAgg T).run P w=.ok true w∧(sizeOf T).run P w=.ok k w:=by
  unfold aggB at h
  unfold isAgg sizeOf typeInfo
  constructor
  · rw [Sem.run_bind]
    cases hu:P.underlying T with
    | none=>simp [hu] at h
    | some q=>rw [run_underlying hu w];cases q<;>simp_all
  · cases hq:P.info? T with
    | none=>split at h<;>simp_all
    | some q =>
      have:q.size=k:=by
        split at h
        · simpa [hq] using h
        · simpa [hq] using h
        · cases h
      simp [hq,this]
/-- a load of one cell out of a known block -/
theorem op_ld (i:Nat) {T b j:Nat} {cs:Array Value} {t:TypeId} {fr:Nat×Nat} (hT:scalarB P T=true) (hl:l[i]? = some (Blk b (.cells cs t fr))) (hx:ev f x=.pointer (some ⟨b,j,none⟩)) (hv:cs[j]? = some v) :
    OP P w0 n ⟨d,.load T x,ty,pos,aft,g⟩ f l v:=fun M a w r s=>by
  have hc:w.cell? ⟨b,j,none⟩=some v:=(cell_of_row w b j cs t fr (heap_of i s hl)).trans hv
  simp [execOp,r.eval,hx,Instr.loadAt,Instr.sureAddr,loadVar,Sem.run_bind,(isAgg_scalar hT w).1,load,Sem.run,hc]
theorem loadCells_row (w:World) (b j k:Nat) (cs:Array Value) (t:TypeId) (fr:Nat×Nat) (hb:w.heap[b]? = some (.cells cs t fr)) (L:List Value) (hL:(cs.toList.drop j).take k=L) (hk:j+k≤cs.size) :
    (loadCells ⟨b,j,none⟩ k).run P w=.ok L.toArray w:=by
  have hlen:L.length=k:=by rw [←hL];simp;omega
  rw [←hlen]
  refine run_loadCells_list (P:=P) w ⟨b,j,none⟩ L fun q u hu=>?_
  have hadd:(⟨b,j,none⟩:Addr).add q=⟨b,j+q,none⟩:=by unfold Addr.add;split<;>simp_all
  rw [hadd,cell_of_row w b (j+q) cs t fr hb]
  rw [←hL] at hu
  obtain ⟨hq,_⟩:=List.getElem?_eq_some_iff.1 hu
  rw [List.getElem?_take_of_lt (by simp at hq;omega),List.getElem?_drop] at hu
  simpa using hu
/-- a load of several cells -/
theorem op_lda (i:Nat) {T b j k:Nat} {cs:Array Value} {t:TypeId} {fr:Nat×Nat} {L:List Value} (hT:aggB P T=some k) (hl:l[i]? = some (Blk b (.cells cs t fr))) (hx:ev f x=.pointer (some ⟨b,j,none⟩)) (hL:(cs.toList.drop j).take k=L) (hk:j+k≤cs.size) :
    OP P w0 n ⟨d,.load T x,ty,pos,aft,g⟩ f l (.agg L.toArray):=fun M a w r s=>by
  have hc:=loadCells_row (P:=P) w b j k cs t fr (heap_of i s hl) L hL hk
  simp [execOp,r.eval,hx,Instr.loadAt,Instr.sureAddr,loadVar,Sem.run_bind,(isAgg_agg hT w).1,(isAgg_agg hT w).2,hc]
theorem eqGuard_int (op:BinOp) (t:TypeId) (x y:Operand) (k k':IntKind) (a b:Int) (w:World):(eqGuard op t x y (.int k a) (.int k' b)).run P w=.ok () w:=by
  unfold eqGuard
  cases op<;>simp
section ints
variable {T T':TypeId} {k:IntKind} {a b:Int} (hx:ev f x=.int k a) (hy:ev f y=.int k b)
include hx hy
theorem op_lt:OP P w0 n ⟨d,.binOp .lss T x y T',ty,pos,aft,g⟩ f l (.bool (decide (a<b))):=fun M A w r s=>by
  simp [execOp,r.eval,hx,hy,eqGuard_int,binOp,Op.intCmp]
theorem op_le:OP P w0 n ⟨d,.binOp .leq T x y T',ty,pos,aft,g⟩ f l (.bool (decide (a≤b))):=fun M A w r s=>by
  simp [execOp,r.eval,hx,hy,eqGuard_int,binOp,Op.intCmp]
theorem op_gt:OP P w0 n ⟨d,.binOp .gtr T x y T',ty,pos,aft,g⟩ f l (.bool (decide (b<a))):=fun M A w r s=>by
  simp [execOp,r.eval,hx,hy,eqGuard_int,binOp,Op.intCmp]
theorem op_ge:OP P w0 n ⟨d,.binOp .geq T x y T',ty,pos,aft,g⟩ f l (.bool (decide (b≤a))):=fun M A w r s=>by
  simp [execOp,r.eval,hx,hy,eqGuard_int,binOp,Op.intCmp]
theorem op_eq:OP P w0 n ⟨d,.binOp .eql T x y T',ty,pos,aft,g⟩ f l (.bool (decide (a=b))):=fun M A w r s=>by
  simp [execOp,r.eval,hx,hy,eqGuard_int,binOp,Op.intCmp]
  by_cases h:a=b<;>simp [h]
theorem op_ne:OP P w0 n ⟨d,.binOp .neq T x y T',ty,pos,aft,g⟩ f l (.bool (decide (a≠b))):=fun M A w r s=>by
  simp [execOp,r.eval,hx,hy,eqGuard_int,binOp,Op.intCmp]
  by_cases h:a=b<;>simp [h,bne]
theorem op_addw:OP P w0 n ⟨d,.binOp .add T x y T',ty,pos,aft,g⟩ f l (.int k (k.wrap (a+b))):=fun M A w r s=>by
  simp [execOp,r.eval,hx,hy,eqGuard_int,binOp,Op.intArith]
theorem op_subw:OP P w0 n ⟨d,.binOp .sub T x y T',ty,pos,aft,g⟩ f l (.int k (k.wrap (a-b))):=fun M A w r s=>by
  simp [execOp,r.eval,hx,hy,eqGuard_int,binOp,Op.intArith]
theorem op_mulw:OP P w0 n ⟨d,.binOp .mul T x y T',ty,pos,aft,g⟩ f l (.int k (k.wrap (a*b))):=fun M A w r s=>by
  simp [execOp,r.eval,hx,hy,eqGuard_int,binOp,Op.intArith]
theorem op_quow (hb:b≠0):OP P w0 n ⟨d,.binOp .quo T x y T',ty,pos,aft,g⟩ f l (.int k (k.wrap (a.tdiv b))):=fun M A w r s=>by
  simp [execOp,r.eval,hx,hy,eqGuard_int,binOp,Op.intDiv,hb]
theorem op_remw (hb:b≠0):OP P w0 n ⟨d,.binOp .rem T x y T',ty,pos,aft,g⟩ f l (.int k (a.tmod b)):=fun M A w r s=>by
  simp [execOp,r.eval,hx,hy,eqGuard_int,binOp,Op.intDiv,hb]
end ints
theorem wrap_i64 {a:Int} (h1:-9223372036854775808≤a) (h2:a≤9223372036854775807):IntKind.i64.wrap a=a:=by
  exact IntWalk.i64_in a ⟨h1,h2⟩
section ints64
variable {T T':TypeId} {a b:Int} (hx:ev f x=.int .i64 a) (hy:ev f y=.int .i64 b)
include hx hy
theorem op_add (h1:-9223372036854775808≤a+b) (h2:a+b≤9223372036854775807):OP P w0 n ⟨d,.binOp .add T x y T',ty,pos,aft,g⟩ f l (.int .i64 (a+b)):=by
  have:=op_addw (P:=P) (w0:=w0) (n:=n) (f:=f) (l:=l) (d:=d) (ty:=ty) (pos:=pos) (aft:=aft) (g:=g) (T:=T) (T':=T') hx hy
  rwa [wrap_i64 h1 h2] at this
theorem op_sub (h1:-9223372036854775808≤a-b) (h2:a-b≤9223372036854775807):OP P w0 n ⟨d,.binOp .sub T x y T',ty,pos,aft,g⟩ f l (.int .i64 (a-b)):=by
  have:=op_subw (P:=P) (w0:=w0) (n:=n) (f:=f) (l:=l) (d:=d) (ty:=ty) (pos:=pos) (aft:=aft) (g:=g) (T:=T) (T':=T') hx hy
  rwa [wrap_i64 h1 h2] at this
theorem op_mul (h1:-9223372036854775808≤a*b) (h2:a*b≤9223372036854775807):OP P w0 n ⟨d,.binOp .mul T x y T',ty,pos,aft,g⟩ f l (.int .i64 (a*b)):=by
  have:=op_mulw (P:=P) (w0:=w0) (n:=n) (f:=f) (l:=l) (d:=d) (ty:=ty) (pos:=pos) (aft:=aft) (g:=g) (T:=T) (T':=T') hx hy
  rwa [wrap_i64 h1 h2] at this
theorem op_quo (ha:0≤a) (hb:0<b) (h2:a≤9223372036854775807):OP P w0 n ⟨d,.binOp .quo T x y T',ty,pos,aft,g⟩ f l (.int .i64 (a / b)):=by
  have:=op_quow (P:=P) (w0:=w0) (n:=n) (f:=f) (l:=l) (d:=d) (ty:=ty) (pos:=pos) (aft:=aft) (g:=g) (T:=T) (T':=T') hx hy (by omega)
  have h3:a / b≤a:=Int.ediv_le_self b ha
  have h4:0≤a / b:=Int.ediv_nonneg ha (by omega)
  rwa [Int.tdiv_eq_ediv_of_nonneg ha,wrap_i64 (by omega) (by omega)] at this
theorem op_rem (ha:0≤a) (hb:0<b):OP P w0 n ⟨d,.binOp .rem T x y T',ty,pos,aft,g⟩ f l (.int .i64 (a % b)):=by
  have:=op_remw (P:=P) (w0:=w0) (n:=n) (f:=f) (l:=l) (d:=d) (ty:=ty) (pos:=pos) (aft:=aft) (g:=g) (T:=T) (T':=T') hx hy (by omega)
  rwa [Int.tmod_eq_emod_of_nonneg ha] at this
end ints64
theorem op_not {T:TypeId} {b:Bool} (hx:ev f x=.bool b):OP P w0 n ⟨d,.unOp .not T x,ty,pos,aft,g⟩ f l (.bool (!b)):=fun M A w r s=>by
  simp [execOp,r.eval,hx,Op.unary]
theorem op_min {as:Array TypeId} {k k':IntKind} {a b:Int} (hx:ev f x=.int k a) (hy:ev f y=.int k' b):OP P w0 n ⟨d,.call ⟨.builtin .min,#[x,y],as⟩,ty,pos,aft,g⟩ f l (.int k (if b<a then b else a)):=fun M A w r s=>by
  simp [execOp,resolve,invoke,builtin,r.eval,hx,hy,Builtin.min_,Builtin.min2]
theorem op_max {as:Array TypeId} {k k':IntKind} {a b:Int} (hx:ev f x=.int k a) (hy:ev f y=.int k' b):OP P w0 n ⟨d,.call ⟨.builtin .max,#[x,y],as⟩,ty,pos,aft,g⟩ f l (.int k (if a<b then b else a)):=fun M A w r s=>by
  simp [execOp,resolve,invoke,builtin,r.eval,hx,hy,Builtin.max_,Builtin.max2]
theorem op_convi {T T':TypeId} {k k':IntKind} {a:Int} (hu:P.underlying T'=some (.int k')) (hT:(P.underlying T).isSome=true) (hx:ev f x=.int k a):OP P w0 n ⟨d,.convert T T' x,ty,pos,aft,g⟩ f l (.int k' (k'.wrap a)):=fun M A w r s=>by
  obtain ⟨q,hq⟩:=Option.isSome_iff_exists.1 hT
  simp [execOp,r.eval,hx,convert,run_underlying hu,run_underlying hq,Conv.intToInt]
theorem equal_depth (T:TypeId) (x y:Value):∃ k,Op.equal T x y=Op.equalIn (k+1) T x y:=⟨9999,rfl⟩
theorem eqGuard_ptr (op:BinOp) (t:TypeId) (x y:Operand) (p q:Option Addr) (w:World):(eqGuard op t x y (.pointer p) (.pointer q)).run P w=.ok () w:=by
  unfold eqGuard
  cases op<;>simp
theorem run_equal_pn {T e:TypeId} (hu:P.underlying T=some (.pointer e)) (p:Option Addr) (w:World):(Op.equal T (.pointer p) (.pointer none)).run P w=.ok p.isNone w:=by
  obtain ⟨k,hk⟩:=equal_depth T (.pointer p) (.pointer none)
  rw [hk]
  unfold Op.equalIn
  cases p<;>simp [run_underlying hu]
theorem op_eqnil {T T' e:TypeId} {p:Option Addr} (hu:P.underlying T=some (.pointer e)) (hx:ev f x=.pointer p) (hy:ev f y=.pointer none):OP P w0 n ⟨d,.binOp .eql T x y T',ty,pos,aft,g⟩ f l (.bool p.isNone):=fun M A w r s=>by
  simp only [execOp,r.eval,hx,hy,binOp]
  simp [eqGuard_ptr,run_equal_pn hu]
theorem op_nenil {T T' e:TypeId} {p:Option Addr} (hu:P.underlying T=some (.pointer e)) (hx:ev f x=.pointer p) (hy:ev f y=.pointer none):OP P w0 n ⟨d,.binOp .neq T x y T',ty,pos,aft,g⟩ f l (.bool (!p.isNone)):=fun M A w r s=>by
  simp only [execOp,r.eval,hx,hy,binOp]
  simp [eqGuard_ptr,run_equal_pn hu]
theorem op_extract {vs:Array Value} {i:Nat} (hx:ev f x=.tuple vs) (hv:vs[i]? = some v):OP P w0 n ⟨d,.extract x i,ty,pos,aft,g⟩ f l v:=fun M A w r s=>by
  simp [execOp,r.eval,hx,Instr.extract,hv]
theorem op_len_slice {T e:TypeId} {ao:Option Addr} {m c:Nat} (hu:P.underlying T=some (.slice e)) (hx:ev f x=.slice ao m c):OP P w0 n ⟨d,.call ⟨.builtin .len,#[x],#[T]⟩,ty,pos,aft,g⟩ f l (.int .i64 m):=fun M A w r s=>by
  simp [execOp,resolve,invoke,builtin,r.eval,hx,Builtin.len_,run_underlying hu,goInt]
def Ret (w0:World) (R:Value→List HProp→Prop):Ending→World→Prop:=fun e w'=>∃ v l',e=.returned v∧R v l'∧Sat w0 w' l'
theorem os_store {T b j:Nat} {cs cs':Array Value} {t:TypeId} {fr:Nat×Nat} (hT:scalarB P T=true) (hx:ev f x=.pointer (some ⟨b,j,none⟩)) (hy:ev f y=v) (h1:v.oneCell'=true) (hj:Nat.ble (j+1) cs.size=true) (hf:Free cs.size fr)
    (hc:cs.setIfInBounds j v=cs'):OS P w0 n ⟨d,.store T x y,ty,pos,aft,g⟩ f (Blk b (.cells cs t fr)::l) (fun u l'=>u=undef∧l'=Blk b (.cells cs' t fr)::l):=fun a w r s=>by
  subst hc
  have hj':j<cs.size:=Nat.le_of_ble_eq_true hj
  have hcell:w.cell? ⟨b,j,none⟩=some cs[j]:=by rw [cell_of_row w b j cs t fr s.blk];simp [hj']
  have hfro:=hf.frozen s.blk hj'
  have hst:(store ⟨b,j,none⟩ v).run P w=.ok () (w.setCell ⟨b,j,none⟩ v):=by rw [run_store P w _ v _ h1,hcell];simp [hfro]
  have hcells:v.cells=#[v]:=by cases v<;>simp_all [Value.oneCell',Value.cells]
  have hadd:(⟨b,j,none⟩:Addr).add 0=⟨b,j,none⟩:=rfl
  simp [execOp,r.eval,hx,hy,Instr.storeAt,Instr.sureAddr,storeVar,(isAgg_scalar hT w).2,hcells,storeCells,hadd,hst,gives]
  exact s.setCell v
theorem os_boxa {T:TypeId} {cs:Array Value} (hx:ev f x=.agg cs):OS P w0 n ⟨d,.box T x,ty,pos,aft,g⟩ f l (fun u l'=>∃ b,u=.pointer (some ⟨b,0,none⟩)∧l'=Blk b (.cells cs T (0,0))::l):=fun a w r s=>by
  simp only [execOp,r.eval,hx,Instr.box,newVar,newRow]
  simp [gives]
  exact s.alloc _
theorem os_box {T:TypeId} (hx:ev f x=v) (hc:v.cells=#[v]):OS P w0 n ⟨d,.box T x,ty,pos,aft,g⟩ f l (fun u l'=>∃ b,u=.pointer (some ⟨b,0,none⟩)∧l'=Blk b (.cells #[v] T (0,0))::l):=fun a w r s=>by
  rw [←hc]
  simp only [execOp,r.eval,hx,Instr.box,newVar,newRow]
  simp [gives]
  exact s.alloc _
/-- a call,met by a contract -/
theorem os_call {k:Nat} {args:Array Operand} {as:Array TypeId} {vs:List Value} {R:Value→List HProp→Prop} (hB:callB P k=true) (hv:args.toList.map (ev f)=vs)
    (hc:∀ w,Sat w0 w l→Calls P k vs.toArray w (Ret w0 R)):OS P w0 n ⟨d,.call ⟨.value (.func k),args,as⟩,ty,pos,aft,g⟩ f l R:=fun a w r s=>by
  have he:args.map a.eval=vs.toArray:=by
    rw [←hv];apply Array.toList_inj.1;rw [Array.toList_map];simp only [List.toList_toArray];congr 1;funext x;exact r.eval x
  unfold callB at hB
  cases hf:P.funcs[k]? with
  | none=>simp [hf] at hB
  | some fn =>
    simp only [hf,Bool.and_eq_true,Bool.not_eq_true',Option.isSome_iff_exists] at hB
    obtain ⟨h1,c,h2⟩:=hB
    have h1':¬ fn.name = "runtime.NumGoroutine":=by simpa using h1
    simp [execOp,resolve,Deferred.ofValue,invoke,callFunc,Act.eval,he,hf,h1',h2,gives]
    refine (hc w s).mono fun e w' hq=>?_
    obtain ⟨v,l',rfl,hR,s'⟩:=hq
    exact ⟨v,rfl,l',hR,s'⟩
theorem px_ret1 {fn:Func} {R:Value→List HProp→Prop} {t:Tmp} (hr:fn.results=#[.tmp t]) (hv:f t=v) (hl:∀ w,Sat w0 w l→Sat w0 w l') (h:R v l'):PX w0 n .ret (bodyPost P fn (Ret w0 R)) f l :=
  fun a w r s=>⟨r.defers,f t,by rw [results_tmp hr,r.get],v,l',by rw [hv],h,hl w s⟩
theorem px_ret0 {fn:Func} {R:Value→List HProp→Prop} (hr:fn.results=#[]) (hl:∀ w,Sat w0 w l→Sat w0 w l') (h:R (.tuple #[]) l'):PX w0 n .ret (bodyPost P fn (Ret w0 R)) f l :=
  fun a w r s=>⟨r.defers,_,results_none hr _ _ _,_,l',rfl,h,hl w s⟩
theorem px_end0 {fn:Func} {R:Value→List HProp→Prop} (hr:fn.results=#[]) (hl:∀ w,Sat w0 w l→Sat w0 w l') (h:R (.tuple #[]) l'):PX w0 n .normal (bodyPost P fn (Ret w0 R)) f l :=
  fun a w r s=>⟨r.defers,_,results_none hr _ _ _,_,l',rfl,h,hl w s⟩
theorem px_ret2 {fn:Func} {R:Value→List HProp→Prop} {t1 t2:Tmp} {v1 v2:Value} (hr:fn.results=#[.tmp t1,.tmp t2]) (h1:f t1=v1) (h2:f t2=v2) (hl:∀ w,Sat w0 w l→Sat w0 w l') (h:R (.tuple #[v1,v2]) l'):PX w0 n .ret (bodyPost P fn (Ret w0 R)) f l :=
  fun a w r s=>⟨r.defers,_,by rw [results_tmp2 hr,r.get,r.get],_,l',by rw [h1,h2],h,hl w s⟩
end
section
variable {P:Program} {w0:World} {n:Nat} {Q:Exit→Act→World→Prop} {f:Fr} {l:List HProp} {ops:Array Oper} {rest:List Oper} {A B C D E F:HProp} {c:Code} {e:Exit}
theorem ol_split (d:Nat) {b:Bool} (hf:f d=.bool b) (h1:b=true→OL P w0 n ops Q rest f l) (h2:b=false→OL P w0 n ops Q rest f l):OL P w0 n ops Q rest f l:=by
  cases b
  · exact h2 rfl
  · exact h1 rfl
theorem ol_pull1 (h:OL P w0 n ops Q rest f (B::A::l)):OL P w0 n ops Q rest f (A::B::l):=ol_pull 1 h
theorem ol_pull2 (h:OL P w0 n ops Q rest f (C::A::B::l)):OL P w0 n ops Q rest f (A::B::C::l):=ol_pull 2 h
theorem ol_pull3 (h:OL P w0 n ops Q rest f (D::A::B::C::l)):OL P w0 n ops Q rest f (A::B::C::D::l):=ol_pull 3 h
theorem ol_pull4 (h:OL P w0 n ops Q rest f (E::A::B::C::D::l)):OL P w0 n ops Q rest f (A::B::C::D::E::l):=ol_pull 4 h
theorem ol_pull5 (h:OL P w0 n ops Q rest f (F::A::B::C::D::E::l)):OL P w0 n ops Q rest f (A::B::C::D::E::F::l):=ol_pull 5 h
theorem cd_pull1 (h:CD P w0 n c Q f (B::A::l)):CD P w0 n c Q f (A::B::l):=cd_pull 1 h
theorem cd_pull2 (h:CD P w0 n c Q f (C::A::B::l)):CD P w0 n c Q f (A::B::C::l):=cd_pull 2 h
theorem cd_pull3 (h:CD P w0 n c Q f (D::A::B::C::l)):CD P w0 n c Q f (A::B::C::D::l):=cd_pull 3 h
theorem cd_pull4 (h:CD P w0 n c Q f (E::A::B::C::D::l)):CD P w0 n c Q f (A::B::C::D::E::l):=cd_pull 4 h
theorem cd_pull5 (h:CD P w0 n c Q f (F::A::B::C::D::E::l)):CD P w0 n c Q f (A::B::C::D::E::F::l):=cd_pull 5 h
end
section
variable (P:Program) (w0:World) (l:List HProp) (ops:Array Oper) (imps:List Nat) (nh:Nat)
/-- a soft operation: one value,and the context stays (the world may grow) -/
def QP (o:Oper) (a:Act) (v:Value):Prop:=∀ M w,Sat w0 w (M++l)→(∀ k args w',(execOp a.eval o).run P w=.ok (.enter k args) w'→P.inits.idxOf? k=none)∧gives P (fun u w'=>u=v∧Sat w0 w' (M++l)) ((execOp a.eval o).run P w)
def Wd (o:Oper) (a:Act):Bool:=Region.wanted o (yielded ops a.tmps)
def CLI (o:Oper) (a:Act) (w:World) (K:Act→List HProp→Prop):Prop :=
  gives P (fun u w'=>∃ M',Sat w0 w' (M'++l)∧K (a.put o.dst u) M') ((execOp a.eval o).run P w)
/-- one operation comes up -/
def CL (i:Nat) (o:Oper) (a:Act) (w:World) (M:List HProp) (K:Act→List HProp→Prop):Prop :=
  if Wd ops o a then (if imps.contains i then CLI P w0 l o a w K else ∃ v,QP P w0 l o a v∧K (a.put o.dst v) M)
  else K (a.put o.dst undef) M
def TT (L:Array Bool→Act→List HProp→Prop):Nat→Array Bool→Act→List HProp→Prop
  | 0,listed,a,M=>L listed a M
  | f+1,listed,a,M=>∀ w,Sat w0 w (M++l)→Region.ready .any ops listed≠[]∧∀ i∈Region.ready .any ops listed,i<nh∧∀ o,ops[i]? = some o→CL P w0 l ops imps i o a w M (TT L f (listed.setIfInBounds i true))
def LX (K:Act→List HProp→Prop):List Oper→Nat→Act→List HProp→Prop
  | [],_,a,M=>K a M
  | o::r,k,a,M=>∀ w,Sat w0 w (M++l)→CL P w0 l ops imps k o a w M (LX K r (k+1))
end
section
variable {P:Program} {w0:World} {l:List HProp} {ops:Array Oper} {imps:List Nat} {nh:Nat}
theorem steps_end {m m1 m2:Machine} {o1 o2:Outcome} {w1 w2:World} (h1:Steps P m m1) (e1:step P m1=.ended o1 w1) (h2:Steps P m m2) (e2:step P m2=.ended o2 w2):m1=m2:=by
  obtain ⟨a,ha⟩:=h1;obtain ⟨b,hb⟩:=h2
  induction a generalizing m b with
  | zero =>
    simp only [runN,Stepped.next.injEq] at ha;subst ha
    cases b with
    | zero=>simpa [runN] using hb
    | succ b=>simp [runN,e1] at hb
  | succ a ih =>
    simp only [runN] at ha
    cases hs:step P m with
    | next m' =>
      rw [hs] at ha
      cases b with
      | zero=>simp only [runN,Stepped.next.injEq] at hb;subst hb;rw [e2] at hs;cases hs
      | succ b=>simp only [runN,hs] at hb;exact ih ha b hb
    | ended o w=>rw [hs] at ha;cases ha
theorem calls_both {k:FuncId} {args:Array Value} {w:World} {F G:Value→World→Prop} (hk:P.inits.idxOf? k=none) (h1:Calls P k args w fun e w'=>∃ v,e=.returned v∧F v w') (h2:Calls P k args w fun e w'=>∃ v,e=.returned v∧G v w'):∃ v w',F v w'∧G v w':=by
  obtain ⟨e,w1,fr1,⟨v,rfl,hF⟩,c1,f1,l1⟩:=h1 []
  obtain ⟨e',w2,fr2,⟨u,rfl,hG⟩,c2,f2,l2⟩:=h2 []
  have t1:=step_leave_done l1 (by rw [f1];exact hk)
  have t2:=step_leave_done l2 (by rw [f2];exact hk)
  rw [steps_end c1 t1 c2 t2,t2] at t1
  injection t1 with a b
  injection a with a
  subst a;subst b
  exact ⟨_,_,hF,hG⟩
theorem gives_both {F G:Value→World→Prop} {r:Result Next} (hk:∀ k args w',r=.ok (.enter k args) w'→P.inits.idxOf? k=none) (h1:gives P F r) (h2:gives P G r):∃ v w',F v w'∧G v w':=by
  cases r with
  | ok nx w1 =>
    cases nx<;>simp only [gives] at h1 h2
    case value v=>exact ⟨_,_,h1,h2⟩
    case skip=>exact ⟨_,_,h1,h2⟩
    case enter k args=>exact calls_both (hk _ _ _ rfl) h1 h2
  | halt x w1=>exact h1.elim
theorem QP.of_ok {o:Oper} {a:Act} {v:Value} (h:∀ M w,Sat w0 w (M++l)→(execOp a.eval o).run P w=.ok (.value v) w):QP P w0 l o a v:=fun M w s=>by
  rw [h M w s]
  exact ⟨fun _ _ _ q=>(by cases q),rfl,s⟩
theorem QP.one {o:Oper} {a:Act} {v u:Value} (h:QP P w0 l o a v) (h':QP P w0 l o a u) {M:List HProp} {w:World} (s:Sat w0 w (M++l)):v=u:=by
  obtain ⟨_,_,⟨e1,_⟩,⟨e2,_⟩⟩:=gives_both (h M w s).1 (h M w s).2 (h' M w s).2
  rw [←e1,e2]
theorem QP.same {o:Oper} {a a':Act} {v:Value} (h:QP P w0 l o a v) (he:execOp a'.eval o=execOp a.eval o):QP P w0 l o a' v:=fun M w s=>by rw [he];exact h M w s
theorem CL.mono {i:Nat} {o:Oper} {a:Act} {w:World} {M:List HProp} {K K':Act→List HProp→Prop} (h:CL P w0 l ops imps i o a w M K) (hk:∀ a M,K a M→K' a M):CL P w0 l ops imps i o a w M K':=by
  unfold CL CLI at *
  split
  · rename_i h1
    rw [if_pos h1] at h
    split
    · rename_i h2
      rw [if_pos h2] at h
      exact h.mono fun u w' ⟨M',s,k⟩=>⟨M',s,hk _ _ k⟩
    · rename_i h2
      rw [if_neg h2] at h
      obtain ⟨v,q,k⟩:=h
      exact ⟨v,q,hk _ _ k⟩
  · rename_i h1
    rw [if_neg h1] at h
    exact hk _ _ h
/-- What a ready operation that reads does: it has one value,and apart operations make no difference. -/
def Ys (P:Program) (w0:World) (l:List HProp) (ops:Array Oper) (o:Oper) (a:Act) (v:Value):Prop:=(Wd ops o a=true∧QP P w0 l o a v)∨(Wd ops o a=false∧v=undef)
theorem Ys.put {oi oj:Oper} {a:Act} {v u:Value} (hsi:∀ cs b,oi.op≠.select cs b) (h3:∀ d,oj.dst=some d→d∉oi.looksAt ops) (hy:Ys P w0 l ops oi a v):Ys P w0 l ops oi (a.put oj.dst u) v:=by
  unfold Ys Wd at *
  rw [wanted_put oi a oj.dst u h3]
  rcases hy with ⟨h,q⟩ | h
  · exact .inl ⟨h,q.same (execOp_put oi hsi a oj.dst u h3)⟩
  · exact .inr h
theorem tt_sound {L:Array Bool→Act→List HProp→Prop} {g:Nat} {Q:Exit→Act→World→Prop} (hL:∀ listed a M w,L listed a M→Sat w0 w (M++l)→wpAny P .any ops Q g listed a w) :
    ∀ (f:Nat) (listed:Array Bool) (a:Act) (M:List HProp) (w:World),TT P w0 l ops imps nh L f listed a M→Sat w0 w (M++l)→wpAny P .any ops Q (f+g) listed a w
  | 0,listed,a,M,w,h,s=>by rw [Nat.zero_add];exact hL _ _ _ _ h s
  | f+1,listed,a,M,w,h,s=>by
    rw [show f+1+g=(f+g)+1 by omega]
    obtain ⟨h1,h2⟩:=h w s
    refine ⟨fun h0=>absurd h0 h1,fun i hi=>?_⟩
    obtain ⟨_,h3⟩:=h2 i hi
    obtain ⟨_,o,ho,_⟩:=mem_ready.1 hi
    have h4:=h3 o ho
    unfold wpOp
    simp only [ho]
    unfold CL Wd at h4
    split
    · rename_i hw
      rw [if_pos hw] at h4
      refine .inl ?_
      split at h4
      · exact gives.wp h4 Q fun v w' ⟨M',s',t⟩=>tt_sound hL f _ _ _ _ t s'
      · obtain ⟨v,q,t⟩:=h4
        exact gives.wp (q M w s).2 Q fun u w' ⟨e,s'⟩=>by subst e;exact tt_sound hL f _ _ _ _ t s'
    · rename_i hw
      rw [if_neg hw] at h4
      exact tt_sound hL f _ _ _ _ h4 s
section first
variable {L:Array Bool→Act→List HProp→Prop} (hsel:∀ (j:Nat) (o:Oper) cs b,ops[j]? = some o→o.op≠.select cs b)
  (G:Array Bool→Prop) (hG:∀ listed i,G listed→i∈Region.ready .any ops listed→i<nh→G (listed.setIfInBounds i true))
  (hnh:∀ listed i,G listed→i<nh→listed.getD i true=false→∀ j∈Region.ready .any ops listed,j<nh)
  (hdone:∀ listed a M,L listed a M→∀ j∈Region.ready .any ops listed,nh≤j)
include hsel hG hnh hdone
theorem not_waits {i j:Nat} {listed:Array Bool} (hi:i∈Region.ready .any ops listed) (hj:j∈Region.ready .any ops listed) {oj:Oper} (hoj:ops[j]? = some oj):∀ e∈oj.after,Region.binds .any e=true→e.on≠i:=by
  intro e he hb heq
  obtain ⟨_,o',ho',hall⟩:=mem_ready.1 hj
  have:o'=oj:=Option.some.inj (ho'.symm.trans hoj)
  subst this
  have h1:=hall e he hb
  rw [heq,getD_both (mem_ready.1 hi).1] at h1
  cases h1
/-- An operation that reads may come first. -/
theorem tt_quiet {i:Nat} {oi:Oper} {v:Value} (hi:ops[i]? = some oi) (hin:i<nh) (hq:imps.contains i=false) :
    ∀ (f:Nat) (listed:Array Bool) (a:Act) (M:List HProp),G listed →
      (∀ j oj,ops[j]? = some oj→j≠i→listed.getD j true=false→(∀ e∈oj.after,Region.binds .any e=true→e.on≠i)→oi.apart ops oj=true) →
      i∈Region.ready .any ops listed→Ys P w0 l ops oi a v →
      TT P w0 l ops imps nh L f (listed.setIfInBounds i true) (a.put oi.dst v) M→TT P w0 l ops imps nh L (f+1) listed a M:=by
  intro f
  have self:∀ (listed:Array Bool) (a:Act) (M:List HProp) (w:World) (K:Act→List HProp→Prop),Ys P w0 l ops oi a v→K (a.put oi.dst v) M→CL P w0 l ops imps i oi a w M K:=by
    intro listed a M w K hy hK
    unfold CL
    rcases hy with ⟨h,q⟩ | ⟨h,rfl⟩
    · rw [if_pos h,if_neg (by rw [hq];simp)];exact ⟨v,q,hK⟩
    · rw [if_neg (by rw [h];simp)];exact hK
  induction f with
  | zero =>
    intro listed a M hg _ hr hy H w s
    have hun:=(mem_ready.1 hr).1
    refine ⟨fun h=>(by rw [h] at hr;cases hr),fun j hj=>?_⟩
    have hjn:=hnh listed i hg hin hun j hj
    refine ⟨hjn,fun oj hoj=>?_⟩
    by_cases hji:j=i
    · subst hji
      have:oj=oi:=Option.some.inj (hoj.symm.trans hi)
      subst this
      exact self listed a M w _ hy H
    · have:=hdone _ _ _ H j (ready_mono hj hji)
      omega
  | succ f ih =>
    intro listed a M hg hfree hr hy H w s
    have hun:=(mem_ready.1 hr).1
    refine ⟨fun h=>(by rw [h] at hr;cases hr),fun j hj=>?_⟩
    have hjn:=hnh listed i hg hin hun j hj
    refine ⟨hjn,fun oj hoj=>?_⟩
    by_cases hji:j=i
    · subst hji
      have:oj=oi:=Option.some.inj (hoj.symm.trans hi)
      subst this
      exact self listed a M w _ hy H
    · obtain ⟨_,h1⟩:=(H w s).2 j (ready_mono hj hji)
      have h1:=h1 oj hoj
      have hap:=hfree j oj hoj hji (mem_ready.1 hj).1 (not_waits hsel G hG hnh hdone hr hj hoj)
      obtain ⟨x1,x2,x3⟩:=Oper.apart_spec hap
      have hfree':∀ k ok,ops[k]? = some ok→k≠i→(listed.setIfInBounds j true).getD k true=false →
          (∀ e∈ok.after,Region.binds .any e=true→e.on≠i)→oi.apart ops ok=true:=fun k ok hk hki hun' hno=>by
        refine hfree k ok hk hki ?_ hno
        by_cases hjk:j=k
        · subst hjk;exact (mem_ready.1 hj).1
        · rw [getD_set_ne true hjk] at hun';exact hun'
      have step:∀ (u:Value) (M':List HProp),TT P w0 l ops imps nh L f ((listed.setIfInBounds i true).setIfInBounds j true) ((a.put oi.dst v).put oj.dst u) M'→TT P w0 l ops imps nh L (f+1) (listed.setIfInBounds j true) (a.put oj.dst u) M':=fun u M' h3=>by
        refine ih _ _ M' (hG _ _ hg hj hjn) hfree' (ready_mono hr (Ne.symm hji)) (hy.put (fun cs b=>hsel i oi cs b hi) x3) ?_
        rw [Array.setIfInBounds_comm _ _ hji,←Act.put_comm a v u x2]
        exact h3
      have hw:Wd ops oj (a.put oi.dst v)=Wd ops oj a:=wanted_put oj a oi.dst v x1
      have he:execOp (a.put oi.dst v).eval oj=execOp a.eval oj:=execOp_put oj (fun cs b=>hsel j oj cs b hoj) a oi.dst v x1
      unfold CL at h1 ⊢
      rw [hw] at h1
      split
      · rename_i hwj
        rw [if_pos hwj] at h1
        split
        · rename_i hij
          rw [if_pos hij] at h1
          unfold CLI at h1 ⊢
          rw [he] at h1
          exact h1.mono fun u w' ⟨M',s',t⟩=>⟨M',s',step u M' t⟩
        · rename_i hij
          rw [if_neg hij] at h1
          obtain ⟨u,q,t⟩:=h1
          exact ⟨u,q.same he.symm,step u M t⟩
      · rename_i hwj
        rw [if_neg hwj] at h1
        exact step undef M h1
/-- An operation that changes the context may come first,if all others that are ready only read. -/
theorem tt_imp {i:Nat} {oi:Oper} (hi:ops[i]? = some oi) (hin:i<nh) (hq:imps.contains i=true) :
    ∀ (f:Nat) (listed:Array Bool) (a:Act) (M:List HProp),G listed →
      (∀ j oj,ops[j]? = some oj→j≠i→listed.getD j true=false→(∀ e∈oj.after,Region.binds .any e=true→e.on≠i)→oi.apart ops oj=true∧imps.contains j=false) →
      i∈Region.ready .any ops listed →
      (∀ w,Sat w0 w (M++l)→CL P w0 l ops imps i oi a w M (TT P w0 l ops imps nh L f (listed.setIfInBounds i true)))→TT P w0 l ops imps nh L (f+1) listed a M:=by
  intro f
  induction f with
  | zero =>
    intro listed a M hg hfree hr H w s
    have hun:=(mem_ready.1 hr).1
    refine ⟨fun h=>(by rw [h] at hr;cases hr),fun j hj=>?_⟩
    have hjn:=hnh listed i hg hin hun j hj
    refine ⟨hjn,fun oj hoj=>?_⟩
    by_cases hji:j=i
    · subst hji
      have:oj=oi:=Option.some.inj (hoj.symm.trans hi)
      subst this
      exact H w s
    · have h0:=H w s
      have key:∀ a' M',TT P w0 l ops imps nh L 0 (listed.setIfInBounds i true) a' M'→False:=fun a' M' h=>by
        have:=hdone _ _ _ h j (ready_mono hj hji)
        omega
      unfold CL CLI at h0
      split at h0
      · obtain ⟨u,w',M',_,t⟩:=h0.ex
        exact (key _ _ t).elim
      · exact (key _ _ h0).elim
  | succ f ih =>
    intro listed a M hg hfree hr H w s
    have hun:=(mem_ready.1 hr).1
    refine ⟨fun h=>(by rw [h] at hr;cases hr),fun j hj=>?_⟩
    have hjn:=hnh listed i hg hin hun j hj
    refine ⟨hjn,fun oj hoj=>?_⟩
    by_cases hji:j=i
    · subst hji
      have:oj=oi:=Option.some.inj (hoj.symm.trans hi)
      subst this
      exact H w s
    · have hnw:=not_waits hsel G hG hnh hdone hr hj hoj
      obtain ⟨hap,hjq⟩:=hfree j oj hoj hji (mem_ready.1 hj).1 hnw
      obtain ⟨x1,x2,x3⟩:=Oper.apart_spec hap
      have hfree':∀ k ok,ops[k]? = some ok→k≠i→(listed.setIfInBounds j true).getD k true=false →
          (∀ e∈ok.after,Region.binds .any e=true→e.on≠i)→oi.apart ops ok=true∧imps.contains k=false:=fun k ok hk hki hun' hno=>by
        refine hfree k ok hk hki ?_ hno
        by_cases hjk:j=k
        · subst hjk;exact (mem_ready.1 hj).1
        · rw [getD_set_ne true hjk] at hun';exact hun'
      have hwi:∀ u,Wd ops oi (a.put oj.dst u)=Wd ops oi a:=fun u=>wanted_put oi a oj.dst u x3
      have hei:∀ u,execOp (a.put oj.dst u).eval oi=execOp a.eval oi:=fun u=>execOp_put oi (fun cs b=>hsel i oi cs b hi) a oj.dst u x3
      have hwj:∀ u,Wd ops oj (a.put oi.dst u)=Wd ops oj a:=fun u=>wanted_put oj a oi.dst u x1
      have hej:∀ u,execOp (a.put oi.dst u).eval oj=execOp a.eval oj:=fun u=>execOp_put oj (fun cs b=>hsel j oj cs b hoj) a oi.dst u x1
      -- what 'j' does behind 'i'
      have after:∀ (u:Value) (M':List HProp) (w':World),Sat w0 w' (M'++l)→TT P w0 l ops imps nh L (f+1) (listed.setIfInBounds i true) (a.put oi.dst u) M' →
          ∃ x,Ys P w0 l ops oj a x∧TT P w0 l ops imps nh L f ((listed.setIfInBounds i true).setIfInBounds j true) ((a.put oi.dst u).put oj.dst x) M':=fun u M' w' s' t=>by
        obtain ⟨_,h1⟩:=(t w' s').2 j (ready_mono hj hji)
        have h1:=h1 oj hoj
        unfold CL at h1
        rw [hwj u] at h1
        split at h1
        · rename_i hw'
          rw [if_neg (by rw [hjq];simp)] at h1
          obtain ⟨x,q,t'⟩:=h1
          exact ⟨x,.inl ⟨hw',q.same (hej u).symm⟩,t'⟩
        · rename_i hw'
          exact ⟨undef,.inr ⟨by simpa using hw',rfl⟩,h1⟩
      -- its value
      obtain ⟨x,hx⟩:∃ x,Ys P w0 l ops oj a x:=by
        have h0:=H w s
        unfold CL CLI at h0
        split at h0
        · obtain ⟨u,w',M',s',t⟩:=h0.ex
          obtain ⟨x,hx,_⟩:=after u M' w' s' t
          exact ⟨x,hx⟩
        · obtain ⟨x,hx,_⟩:=after undef M w s h0
          exact ⟨x,hx⟩
      have one:∀ y,Ys P w0 l ops oj a y→y=x:=fun y hy=>by
        rcases hx with ⟨p,q⟩ | ⟨p,q⟩<;>rcases hy with ⟨p',q'⟩ | ⟨p',q'⟩
        · exact q'.one q s
        · rw [p] at p';cases p'
        · rw [p] at p';cases p'
        · rw [q,q']
      have rest:TT P w0 l ops imps nh L (f+1) (listed.setIfInBounds j true) (a.put oj.dst x) M:=by
        refine ih _ _ M (hG _ _ hg hj hjn) hfree' (ready_mono hr (Ne.symm hji)) fun w2 s2=>?_
        have h0:=H w2 s2
        unfold CL CLI at h0 ⊢
        rw [hwi x]
        split
        · rename_i hw'
          rw [if_pos hw',if_pos hq] at h0
          rw [hei x]
          refine h0.mono fun u w' ⟨M',s',t⟩=>⟨M',s',?_⟩
          obtain ⟨y,hy,t'⟩:=after u M' w' s' t
          rw [one y hy] at t'
          rw [Array.setIfInBounds_comm _ _ hji,←Act.put_comm a u x x2]
          exact t'
        · rename_i hw'
          rw [if_neg hw'] at h0
          obtain ⟨y,hy,t'⟩:=after undef M w2 s2 h0
          rw [one y hy] at t'
          rw [Array.setIfInBounds_comm _ _ hji,←Act.put_comm a undef x x2]
          exact t'
      unfold CL
      rcases hx with ⟨p,q⟩ | ⟨p,q⟩
      · rw [if_pos p,if_neg (by rw [hjq];simp)]
        exact ⟨x,q,rest⟩
      · rw [if_neg (by rw [p];simp),←q]
        exact rest
end first
def othersB (ops:Array Oper) (listed:Array Bool) (i:Nat) (imps:List Nat):Bool :=
  (List.range ops.size).all fun j=>j == i || listed.getD j true || match ops[j]? with
    | some oj=>oj.after.any (fun e=>Region.binds .any e && e.on == i) || !imps.contains j
    | none=>true
theorem othersB_spec {listed:Array Bool} {i:Nat} (h:othersB ops listed i imps=true) (j:Nat) (oj:Oper) (hj:ops[j]? = some oj) (hne:j≠i) (hun:listed.getD j true=false)
    (hno:∀ e∈oj.after,Region.binds .any e=true→e.on≠i):imps.contains j=false:=by
  have hlt:j<ops.size:=(Array.getElem?_eq_some_iff.1 hj).1
  have h1:=List.all_eq_true.1 h j (List.mem_range.2 hlt)
  simp only [hj,hun,Bool.or_false,Bool.or_eq_true,beq_iff_eq,hne,false_or,Bool.not_eq_true'] at h1
  rcases h1 with h1 | h1
  · obtain ⟨e,he,hb⟩:=Array.any_eq_true'.1 h1
    simp only [Bool.and_eq_true,beq_iff_eq] at hb
    exact absurd hb.2 (hno e he hb.1)
  · exact h1
/-- k: the next;f: how many of the head are left -/
def headB (ops:Array Oper) (imps:List Nat) (fin:Nat→Array Bool→Bool):Nat→Nat→Array Bool→Bool
  | 0,k,listed=>fin k listed
  | f+1,k,listed=>(Region.ready .any ops listed).contains k && Region.free .any ops listed k && (!imps.contains k || othersB ops listed k imps) && headB ops imps fin f (k+1) (listed.setIfInBounds k true)
section lex
variable {K:Act→List HProp→Prop} {fin:Nat→Array Bool→Bool} (hsel:∀ (j:Nat) (o:Oper) cs b,ops[j]? = some o→o.op≠.select cs b)
  (G:Array Bool→Prop) (hG:∀ listed i,G listed→i∈Region.ready .any ops listed→i<nh→G (listed.setIfInBounds i true))
  (hnh:∀ listed i,G listed→i<nh→listed.getD i true=false→∀ j∈Region.ready .any ops listed,j<nh)
  (hdone:∀ listed,fin nh listed=true→∀ j∈Region.ready .any ops listed,nh≤j)
include hsel hG hnh hdone
theorem tt_lex:∀ (r:List Oper) (k:Nat) (listed:Array Bool) (a:Act) (M:List HProp),(∀ j,j<r.length→r[j]? = ops[k+j]?)→k+r.length=nh→G listed →
    headB ops imps fin r.length k listed=true→LX P w0 l ops imps K r k a M→TT P w0 l ops imps nh (fun listed a M=>fin nh listed=true∧K a M) r.length listed a M
  | [],k,listed,a,M,_,hk,_,hB,h=>by
    have:k=nh:=by simpa using hk
    subst this
    exact ⟨by simpa [headB] using hB,h⟩
  | o::r,k,listed,a,M,hr,hk,hg,hB,h=>by
    have h0:ops[k]? = some o:=by simpa using (hr 0 (by simp)).symm
    simp only [List.length_cons,headB,Bool.and_eq_true,Bool.or_eq_true,Bool.not_eq_true'] at hB
    obtain ⟨⟨⟨hrd,hf⟩,hi⟩,hB'⟩:=hB
    have hkn:k<nh:=by simp only [List.length_cons] at hk;omega
    have hrd':k∈Region.ready .any ops listed:=by simpa using hrd
    have hfree:=Region.free_spec h0 hf
    have next:∀ a' M',LX P w0 l ops imps K r (k+1) a' M'→TT P w0 l ops imps nh (fun listed a M=>fin nh listed=true∧K a M) r.length (listed.setIfInBounds k true) a' M':=fun a' M' h' =>
      tt_lex r (k+1) _ a' M' (fun j hj=>by have:=hr (j+1) (by simp;omega);simpa [Nat.add_assoc,Nat.add_comm 1 j] using this) (by simp only [List.length_cons] at hk;omega) (hG _ _ hg hrd' hkn) hB' h'
    have hdone':∀ (listed:Array Bool) (a:Act) (M:List HProp),(fin nh listed=true∧K a M)→∀ j∈Region.ready .any ops listed,nh≤j:=fun listed a M h=>hdone listed h.1
    by_cases him:imps.contains k=true
    · refine tt_imp hsel G hG hnh hdone' h0 hkn him r.length listed a M hg (fun j oj hj hne hun hno=>⟨hfree j oj hj hne hun hno,?_⟩) hrd' fun w s=>(h w s).mono next
      rcases hi with hi | hi
      · rw [him] at hi;cases hi
      · exact othersB_spec hi j oj hj hne hun hno
    · have him':imps.contains k=false:=by simpa using him
      intro w s
      have h1:=h w s
      have hy:∃ v,Ys P w0 l ops o a v∧LX P w0 l ops imps K r (k+1) (a.put o.dst v) M:=by
        unfold CL at h1
        split at h1
        · rename_i hw
          obtain ⟨v,q,t⟩:=h1
          exact ⟨v,.inl ⟨hw,q⟩,t⟩
        · rename_i hw
          exact ⟨undef,.inr ⟨by simpa using hw,rfl⟩,h1⟩
      obtain ⟨v,hy,t⟩:=hy
      exact tt_quiet hsel G hG hnh hdone' h0 hkn him' r.length listed a M hg hfree hrd' hy (next _ _ t) w s
end lex
end
/-- the whole region is the head -/
def allB (ops:Array Oper) (imps:List Nat):Bool:=Region.noSelect ops && headB ops imps (fun _ listed=>(Region.ready .any ops listed).isEmpty) ops.size 0 (Array.replicate ops.size false)
/-- the operations from nh on come one behind the other -/
def tailB (ops:Array Oper) (imps:List Nat) (nh:Nat):Bool :=
  Region.noSelect ops && decide (nh<ops.size) && Region.sinkB .any ops nh && Region.chainB .any ops nh && headB ops imps (fun k listed=>Region.seqB .any ops (ops.size-nh) k listed) nh 0 (Array.replicate ops.size false)
section
variable (P:Program) (w0:World) (n:Nat)
/-- the head's walk: M is what may change,l what stays -/
def RG (ops:Array Oper) (imps:List Nat) (K:Act→List HProp→Prop) (l:List HProp) (r:List Oper) (k:Nat) (f:Fr) (M:List HProp):Prop:=∀ a,Rep n a f→LX P w0 l ops imps K r k a M
end
section
variable {P:Program} {w0:World} {n:Nat} {l M:List HProp} {imps:List Nat} {Q:Exit→Act→World→Prop} {f:Fr}
def KN (w0:World) (Q:Exit→Act→World→Prop) (l:List HProp):Act→List HProp→Prop:=fun a M=>∀ w,Sat w0 w (M++l)→Q .normal a w
def KT (P:Program) (w0:World) (ops:Array Oper) (Q:Exit→Act→World→Prop) (tail:List Oper) (l:List HProp):Act→List HProp→Prop:=fun a M=>∀ w,Sat w0 w (M++l)→wpList P ops Q tail a w
theorem cd_draw {id:Nat} {lo:List Oper} (hm:P.follows .mixedOrders=true) (imps:List Nat) (hB:allB lo.toArray imps=true) (h:RG P w0 n lo.toArray imps (KN w0 Q l) l lo 0 f M):CD P w0 n (.region id lo.toArray true) Q f (M++l):=fun a w r s=>by
  simp only [allB,Bool.and_eq_true] at hB
  have H:=tt_lex (P:=P) (w0:=w0) (l:=l) (ops:=lo.toArray) (imps:=imps) (nh:=lo.length) (K:=KN w0 Q l) (Region.noSelect_spec hB.1) (fun _=>True) (fun _ _ _ _ _=>trivial)
    (fun listed i _ _ _ j hj=>by obtain ⟨_,o,ho,_⟩:=mem_ready.1 hj;have:=(Array.getElem?_eq_some_iff.1 ho).1;simpa using this)
    (fin:=fun _ listed=>(Region.ready .any lo.toArray listed).isEmpty) (fun listed h j hj=>by rw [List.isEmpty_iff.1 h] at hj;cases hj) lo 0 _ a M (fun j hj=>by simp) (by simp) trivial (by simpa using hB.2) (h a r)
  refine wp_region_any hm ?_
  have:=tt_sound (g:=0) (Q:=Q) (fun listed a M w hL s=>(⟨List.isEmpty_iff.1 hL.1,hL.2 w s⟩:wpAny P .any lo.toArray Q 0 listed a w)) _ _ _ _ { w with drawn:=w.drawn+1 } H (s.keep rfl rfl rfl fun _ _=>rfl)
  simpa using this
theorem cd_drawt {id:Nat} {lo:List Oper} (hm:P.follows .mixedOrders=true) (imps:List Nat) (nh:Nat) (hB:tailB lo.toArray imps nh=true) {hd tl:List Oper} (h1:lo.take nh=hd) (h2:lo.drop nh=tl) (h:RG P w0 n lo.toArray imps (KT P w0 lo.toArray Q tl l) l hd 0 f M) :
    CD P w0 n (.region id lo.toArray true) Q f (M++l):=fun a w r s=>by
  subst h1;subst h2
  simp only [tailB,Bool.and_eq_true,decide_eq_true_eq] at hB
  obtain ⟨⟨⟨⟨hsel,hn⟩,hs⟩,hc⟩,hlex⟩:=hB
  have hn':nh<lo.length:=by simpa using hn
  have htl:(lo.take nh).length=nh:=by simp;omega
  have hdl:(lo.drop nh).length=lo.toArray.size-nh:=by simp
  have inv0:HeadInv .any lo.toArray nh (Array.replicate lo.toArray.size false) :=
    ⟨by simp,fun j oj _ hl=>(by rw [getD_replicate_false] at hl;cases hl),fun t _ ht=>getD_in (by simpa using ht) (getD_replicate_false _ _)⟩
  have H:=tt_lex (P:=P) (w0:=w0) (l:=l) (ops:=lo.toArray) (imps:=imps) (nh:=nh) (K:=KT P w0 lo.toArray Q (lo.drop nh) l) (Region.noSelect_spec hsel) (HeadInv .any lo.toArray nh)
    (fun listed i hg hi hin=>hg.set hi hin)
    (fun listed i hg hin hun j hj=>by
      rcases Nat.lt_or_ge j nh with h | h
      · exact h
      · exact absurd hj (tail_waits hs hc hn hg _ i rfl hin hun j h))
    (fin:=fun k listed=>Region.seqB .any lo.toArray (lo.toArray.size-nh) k listed) (fun listed h=>seqB_ready h) (lo.take nh) 0 _ a M (fun j hj=>by
      have hj':j<nh:=by rw [htl] at hj;exact hj
      simp [hj']) (by simpa using htl) inv0 (by rw [htl];exact hlex) (h a r)
  refine wp_region_any hm ?_
  have:=tt_sound (g:=lo.toArray.size-nh) (Q:=Q) (fun listed a M w hL s=>by
    have:=wpAny_of_seq (md:=.any) (Q':=Q) (lo.drop nh) nh listed a w (fun j=>by simp [List.getElem?_drop]) (by rw [hdl];exact hL.1) (hL.2 w s)
    rwa [hdl] at this) _ _ _ _ { w with drawn:=w.drawn+1 } H (s.keep rfl rfl rfl fun _ _=>rfl)
  rw [htl,show nh+(lo.toArray.size-nh)=lo.toArray.size by omega] at this
  exact this
def ET (P:Program) (w0:World) (n:Nat) (ops:Array Oper) (imps:List Nat) (nh:Nat) (L:Array Bool→Act→List HProp→Prop) (l:List HProp) (k:Nat) (listed:Array Bool) (f:Fr) (M:List HProp):Prop:=∀ a,Rep n a f→TT P w0 l ops imps nh L k listed a M
def LN0 (P:Program) (w0:World) (ops:Array Oper) (Q:Exit→Act→World→Prop) (l:List HProp):Array Bool→Act→List HProp→Prop:=fun listed a M=>(Region.ready .any ops listed).isEmpty=true∧KN w0 Q l a M
theorem cd_drawe {id:Nat} {lo:List Oper} (hm:P.follows .mixedOrders=true) (imps:List Nat) (h:ET P w0 n lo.toArray imps lo.toArray.size (LN0 P w0 lo.toArray Q l) l lo.toArray.size (Array.replicate lo.toArray.size false) f M):CD P w0 n (.region id lo.toArray true) Q f (M++l):=fun a w r s=>by
  refine wp_region_any hm ?_
  exact tt_sound (g:=0) (Q:=Q) (fun listed a M w hL s=>(⟨List.isEmpty_iff.1 hL.1,hL.2 w s⟩:wpAny P .any lo.toArray Q 0 listed a w)) _ _ _ _ { w with drawn:=w.drawn+1 } (h a r) (s.keep rfl rfl rfl fun _ _=>rfl)
section
variable {ops:Array Oper} {k:Nat} {listed:Array Bool}
theorem lt_of_ready {i:Nat} (h:i∈Region.ready .any ops listed):i<ops.size:=by
  obtain ⟨_,o,ho,_⟩:=mem_ready.1 h
  exact (Array.getElem?_eq_some_iff.1 ho).1
theorem et_quiet (i:Nat) {d:Nat} {op:Op} {ty:TypeId} {pos:String} {aft:Array Edge} {g:Option (Nat×Bool)} {v:Value} (hs:Region.noSelect ops=true) (ho:ops[i]? = some ⟨some d,op,ty,pos,aft,g⟩) (hB:((Region.ready .any ops listed).contains i && Region.free .any ops listed i && !imps.contains i)=true) (hw:Wn n ops ⟨some d,op,ty,pos,aft,g⟩ f true) (h:OP P w0 n ⟨some d,op,ty,pos,aft,g⟩ f l v) (hd:Nat.ble (d+1) n=true)
    (t:ET P w0 n ops imps ops.size (LN0 P w0 ops Q l) l k (listed.setIfInBounds i true) (upd f d v) M):ET P w0 n ops imps ops.size (LN0 P w0 ops Q l) l (k+1) listed f M:=fun a r=>by
  simp only [Bool.and_eq_true,Bool.not_eq_true'] at hB
  have hr:i∈Region.ready .any ops listed:=by simpa using hB.1.1
  exact tt_quiet (Region.noSelect_spec hs) (fun _=>True) (fun _ _ _ _ _=>trivial) (fun listed i _ _ _ j hj=>lt_of_ready hj) (fun listed a M h j hj=>by rw [List.isEmpty_iff.1 h.1] at hj;cases hj) ho (lt_of_ready hr) hB.2 k listed a M trivial
    (Region.free_spec ho hB.1.2) hr (.inl ⟨hw a r,.of_ok fun M w s=>h M a w r s⟩) (t _ (r.put hd v))
/-- one of those that are ready -/
def EI (P:Program) (w0:World) (n:Nat) (ops:Array Oper) (imps:List Nat) (L:Array Bool→Act→List HProp→Prop) (l:List HProp) (k:Nat) (listed:Array Bool) (f:Fr) (M:List HProp) (i:Nat):Prop :=
  ∀ a w o,Rep n a f→Sat w0 w (M++l)→ops[i]? = some o→CL P w0 l ops imps i o a w M (TT P w0 l ops imps ops.size L k (listed.setIfInBounds i true))
theorem et_any (rs:List Nat) (hne:rs≠[]) (hrs:Region.ready .any ops listed=rs) (h:∀ i∈rs,EI P w0 n ops imps (LN0 P w0 ops Q l) l k listed f M i):ET P w0 n ops imps ops.size (LN0 P w0 ops Q l) l (k+1) listed f M:=fun a r w s=>by
  rw [hrs]
  exact ⟨hne,fun i hi=>⟨lt_of_ready (by rw [hrs];exact hi),fun o ho=>h i hi a w o r s ho⟩⟩
theorem et_1 {i:Nat} (hrs:Region.ready .any ops listed=[i]) (h:EI P w0 n ops imps (LN0 P w0 ops Q l) l k listed f M i):ET P w0 n ops imps ops.size (LN0 P w0 ops Q l) l (k+1) listed f M :=
  et_any [i] (by simp) hrs fun j hj=>by simp at hj;subst hj;exact h
theorem et_2 {i1 i2:Nat} (hrs:Region.ready .any ops listed=[i1,i2]) (h1:EI P w0 n ops imps (LN0 P w0 ops Q l) l k listed f M i1) (h2:EI P w0 n ops imps (LN0 P w0 ops Q l) l k listed f M i2):ET P w0 n ops imps ops.size (LN0 P w0 ops Q l) l (k+1) listed f M :=
  et_any [i1,i2] (by simp) hrs fun j hj=>by simp at hj;rcases hj with rfl | rfl<;>assumption
theorem et_3 {i1 i2 i3:Nat} (hrs:Region.ready .any ops listed=[i1,i2,i3]) (h1:EI P w0 n ops imps (LN0 P w0 ops Q l) l k listed f M i1) (h2:EI P w0 n ops imps (LN0 P w0 ops Q l) l k listed f M i2) (h3:EI P w0 n ops imps (LN0 P w0 ops Q l) l k listed f M i3):ET P w0 n ops imps ops.size (LN0 P w0 ops Q l) l (k+1) listed f M :=
  et_any [i1,i2,i3] (by simp) hrs fun j hj=>by simp at hj;rcases hj with rfl | rfl | rfl<;>assumption
theorem ei_i {i d:Nat} {op:Op} {ty:TypeId} {pos:String} {aft:Array Edge} {g:Option (Nat×Bool)} {R:Value→List HProp→Prop} {L:Array Bool→Act→List HProp→Prop} (ho:ops[i]? = some ⟨some d,op,ty,pos,aft,g⟩) (hi:imps.contains i=true) (hw:Wn n ops ⟨some d,op,ty,pos,aft,g⟩ f true) (h:OS P w0 n ⟨some d,op,ty,pos,aft,g⟩ f (M++l) R) (hd:Nat.ble (d+1) n=true)
    (t:∀ v l',R v l'→∃ M',l'=M'++l∧ET P w0 n ops imps ops.size L l k (listed.setIfInBounds i true) (upd f d v) M'):EI P w0 n ops imps L l k listed f M i:=fun a w o' r s ho'=>by
  have:o'=_:=Option.some.inj (ho'.symm.trans ho)
  subst this
  unfold CL Wd CLI
  rw [if_pos (hw a r),if_pos hi]
  refine (h a w r s).mono fun v w' ⟨l',hR,s'⟩=>?_
  obtain ⟨M',rfl,t'⟩:=t v l' hR
  exact ⟨M',s',t' _ (r.put hd v)⟩
theorem ei_iN {i:Nat} {op:Op} {ty:TypeId} {pos:String} {aft:Array Edge} {g:Option (Nat×Bool)} {R:Value→List HProp→Prop} {L:Array Bool→Act→List HProp→Prop} (ho:ops[i]? = some ⟨none,op,ty,pos,aft,g⟩) (hi:imps.contains i=true) (hw:Wn n ops ⟨none,op,ty,pos,aft,g⟩ f true) (h:OS P w0 n ⟨none,op,ty,pos,aft,g⟩ f (M++l) R)
    (t:∀ v l',R v l'→∃ M',l'=M'++l∧ET P w0 n ops imps ops.size L l k (listed.setIfInBounds i true) f M'):EI P w0 n ops imps L l k listed f M i:=fun a w o' r s ho'=>by
  have:o'=_:=Option.some.inj (ho'.symm.trans ho)
  subst this
  unfold CL Wd CLI
  rw [if_pos (hw a r),if_pos hi]
  refine (h a w r s).mono fun v w' ⟨l',hR,s'⟩=>?_
  obtain ⟨M',rfl,t'⟩:=t v l' hR
  exact ⟨M',s',t' _ r⟩
theorem et_nil (hr:Region.ready .any ops listed=[]) (h:PX w0 n .normal Q f (M++l)):ET P w0 n ops imps ops.size (LN0 P w0 ops Q l) l 0 listed f M:=fun a r=>⟨by rw [hr];rfl,fun w s=>h a w r s⟩
theorem et_nil_then {y:Code} (hr:Region.ready .any ops listed=[]) (h:CD P w0 n y Q f (M++l)):ET P w0 n ops imps ops.size (LN0 P w0 ops (Exit.then (y.wp P Q) Q) l) l 0 listed f M:=fun a r=>⟨by rw [hr];rfl,fun w s=>h a w r s⟩
theorem et_split (d:Nat) {L:Array Bool→Act→List HProp→Prop} {b:Bool} (hf:f d=.bool b) (h1:b=true→ET P w0 n ops imps ops.size L l k listed f M) (h2:b=false→ET P w0 n ops imps ops.size L l k listed f M):ET P w0 n ops imps ops.size L l k listed f M:=by
  cases b
  · exact h2 rfl
  · exact h1 rfl
end
variable {ops:Array Oper} {K:Act→List HProp→Prop} {r:List Oper} {k:Nat} {o:Oper}
section
variable {d:Nat} {op:Op} {ty:TypeId} {pos:String} {aft:Array Edge} {g:Option (Nat×Bool)}
theorem rg_q {v:Value} (hw:Wn n ops ⟨some d,op,ty,pos,aft,g⟩ f true) (h:OP P w0 n ⟨some d,op,ty,pos,aft,g⟩ f l v) (hd:Nat.ble (d+1) n=true) (hk:imps.contains k=false) (t:RG P w0 n ops imps K l r (k+1) (upd f d v) M):RG P w0 n ops imps K l (⟨some d,op,ty,pos,aft,g⟩::r) k f M:=fun a ra w s=>by
  unfold CL Wd
  rw [if_pos (hw a ra),if_neg (by rw [hk];simp)]
  exact ⟨v,.of_ok fun M w s=>h M a w ra s,t _ (ra.put hd v)⟩
theorem rg_skip (hw:Wn n ops ⟨some d,op,ty,pos,aft,g⟩ f false) (hd:Nat.ble (d+1) n=true) (t:RG P w0 n ops imps K l r (k+1) (upd f d undef) M):RG P w0 n ops imps K l (⟨some d,op,ty,pos,aft,g⟩::r) k f M:=fun a ra w s=>by
  unfold CL Wd
  rw [if_neg (by rw [hw a ra];simp)]
  exact t _ (ra.put hd undef)
theorem rg_i {R:Value→List HProp→Prop} (hw:Wn n ops ⟨some d,op,ty,pos,aft,g⟩ f true) (h:OS P w0 n ⟨some d,op,ty,pos,aft,g⟩ f (M++l) R) (hd:Nat.ble (d+1) n=true) (hk:imps.contains k=true) (t:∀ v l',R v l'→∃ M',l'=M'++l∧RG P w0 n ops imps K l r (k+1) (upd f d v) M'):RG P w0 n ops imps K l (⟨some d,op,ty,pos,aft,g⟩::r) k f M:=fun a ra w s=>by
  unfold CL Wd CLI
  rw [if_pos (hw a ra),if_pos hk]
  refine (h a w ra s).mono fun v w' ⟨l',hR,s'⟩=>?_
  obtain ⟨M',rfl,t'⟩:=t v l' hR
  exact ⟨M',s',t' _ (ra.put hd v)⟩
theorem rg_iN {R:Value→List HProp→Prop} (hw:Wn n ops ⟨none,op,ty,pos,aft,g⟩ f true) (h:OS P w0 n ⟨none,op,ty,pos,aft,g⟩ f (M++l) R) (hk:imps.contains k=true) (t:∀ v l',R v l'→∃ M',l'=M'++l∧RG P w0 n ops imps K l r (k+1) f M'):RG P w0 n ops imps K l (⟨none,op,ty,pos,aft,g⟩::r) k f M:=fun a ra w s=>by
  unfold CL Wd CLI
  rw [if_pos (hw a ra),if_pos hk]
  refine (h a w ra s).mono fun v w' ⟨l',hR,s'⟩=>?_
  obtain ⟨M',rfl,t'⟩:=t v l' hR
  exact ⟨M',s',t' _ ra⟩
end
theorem rg_split (d:Nat) {b:Bool} (hf:f d=.bool b) (h1:b=true→RG P w0 n ops imps K l r k f M) (h2:b=false→RG P w0 n ops imps K l r k f M):RG P w0 n ops imps K l r k f M:=by
  cases b
  · exact h2 rfl
  · exact h1 rfl
theorem rg_nil0 (h:PX w0 n .normal Q f l):RG P w0 n ops imps (KN w0 Q l) l [] k f []:=fun a ra w s=>h a w ra s
theorem rg_nil1 {A:HProp} (h:PX w0 n .normal Q f (A::l)):RG P w0 n ops imps (KN w0 Q l) l [] k f [A]:=fun a ra w s=>h a w ra s
theorem rg_nil2 {A B:HProp} (h:PX w0 n .normal Q f (A::B::l)):RG P w0 n ops imps (KN w0 Q l) l [] k f [A,B]:=fun a ra w s=>h a w ra s
theorem rg_nil_then0 {y:Code} (h:CD P w0 n y Q f l):RG P w0 n ops imps (KN w0 (Exit.then (y.wp P Q) Q) l) l [] k f []:=fun a ra w s=>h a w ra s
theorem rg_nil_then1 {y:Code} {A:HProp} (h:CD P w0 n y Q f (A::l)):RG P w0 n ops imps (KN w0 (Exit.then (y.wp P Q) Q) l) l [] k f [A]:=fun a ra w s=>h a w ra s
theorem rg_nil_then2 {y:Code} {A B:HProp} (h:CD P w0 n y Q f (A::B::l)):RG P w0 n ops imps (KN w0 (Exit.then (y.wp P Q) Q) l) l [] k f [A,B]:=fun a ra w s=>h a w ra s
theorem rg_nil_then3 {y:Code} {A B C:HProp} (h:CD P w0 n y Q f (A::B::C::l)):RG P w0 n ops imps (KN w0 (Exit.then (y.wp P Q) Q) l) l [] k f [A,B,C]:=fun a ra w s=>h a w ra s
theorem rg_nil_then4 {y:Code} {A B C D:HProp} (h:CD P w0 n y Q f (A::B::C::D::l)):RG P w0 n ops imps (KN w0 (Exit.then (y.wp P Q) Q) l) l [] k f [A,B,C,D]:=fun a ra w s=>h a w ra s
theorem rg_tail0 {tl:List Oper} (h:OL P w0 n ops Q tl f l):RG P w0 n ops imps (KT P w0 ops Q tl l) l [] k f []:=fun a ra w s=>h a w ra s
theorem rg_tail1 {tl:List Oper} {A:HProp} (h:OL P w0 n ops Q tl f (A::l)):RG P w0 n ops imps (KT P w0 ops Q tl l) l [] k f [A]:=fun a ra w s=>h a w ra s
theorem rg_tail2 {tl:List Oper} {A B:HProp} (h:OL P w0 n ops Q tl f (A::B::l)):RG P w0 n ops imps (KT P w0 ops Q tl l) l [] k f [A,B]:=fun a ra w s=>h a w ra s
theorem rg_tail3 {tl:List Oper} {A B C:HProp} (h:OL P w0 n ops Q tl f (A::B::C::l)):RG P w0 n ops imps (KT P w0 ops Q tl l) l [] k f [A,B,C]:=fun a ra w s=>h a w ra s
end
def initB (P:Program) (k:Nat):Bool:=(P.inits.idxOf? k).isNone
section
variable {P:Program} {w0:World} {n:Nat} {l M:List HProp} {imps:List Nat} {Q:Exit→Act→World→Prop} {f:Fr} {ops:Array Oper} {d:Option Tmp} {ty:TypeId} {pos:String} {aft:Array Edge} {g:Option (Nat×Bool)} {k:Nat} {args:Array Operand} {as:Array TypeId} {v:Value}
theorem call_enter {a:Act} {w:World} (hB:callB P k=true) {k':Nat} {as':Array Value} {w':World} (h:(execOp a.eval ⟨d,.call ⟨.value (.func k),args,as⟩,ty,pos,aft,g⟩).run P w=.ok (.enter k' as') w'):k'=k:=by
  unfold callB at hB
  cases hf:P.funcs[k]? with
  | none=>simp [hf] at hB
  | some fn =>
    simp only [hf,Bool.and_eq_true,Bool.not_eq_true',Option.isSome_iff_exists] at hB
    obtain ⟨h1,c,h2⟩:=hB
    have h1':¬ fn.name = "runtime.NumGoroutine":=by simpa using h1
    simp [execOp,resolve,Deferred.ofValue,invoke,callFunc,Act.eval,hf,h1',h2] at h
    exact h.1.1.symm
theorem qp_call {a:Act} (hB:callB P k=true) (hI:initB P k=true) (r:Rep n a f) (h:∀ M,OS P w0 n ⟨d,.call ⟨.value (.func k),args,as⟩,ty,pos,aft,g⟩ f (l++M) fun u l'=>u=v∧l'=l++M):QP P w0 l ⟨d,.call ⟨.value (.func k),args,as⟩,ty,pos,aft,g⟩ a v:=fun M w s =>
  ⟨fun k' as' w' e=>by rw [call_enter hB e];exact Option.isNone_iff_eq_none.1 hI,(h M a w r (s.perm List.perm_append_comm)).mono fun u w' ⟨l',⟨hu,hl⟩,s'⟩=>⟨hu,by subst hl;exact s'.perm List.perm_append_comm⟩⟩
end
section
variable {P:Program} {w0:World} {n:Nat} {l M:List HProp} {imps:List Nat} {Q:Exit→Act→World→Prop} {f:Fr} {ops:Array Oper} {d:Nat} {ty:TypeId} {pos:String} {aft:Array Edge} {g:Option (Nat×Bool)} {c:Nat} {args:Array Operand} {as:Array TypeId} {v:Value} {k:Nat} {listed:Array Bool}
theorem e_soft (i:Nat) (ho:ops[i]? = some ⟨some d,.call ⟨.value (.func c),args,as⟩,ty,pos,aft,g⟩) (hw:Wn n ops ⟨some d,.call ⟨.value (.func c),args,as⟩,ty,pos,aft,g⟩ f true) (hc:callB P c=true) (hI:initB P c=true)
    (h:∀ M,OS P w0 n ⟨some d,.call ⟨.value (.func c),args,as⟩,ty,pos,aft,g⟩ f (l++M) fun u l'=>u=v∧l'=l++M)
    (t:ET P w0 n ops imps ops.size (LN0 P w0 ops Q l) l k (listed.setIfInBounds i true) (upd f d v) M) (hs:Region.noSelect ops=true:=by kernel_rfl) (hB:((Region.ready .any ops listed).contains i && Region.free .any ops listed i && !imps.contains i)=true:=by kernel_rfl) (hd:Nat.ble (d+1) n=true:=by rfl) :
    ET P w0 n ops imps ops.size (LN0 P w0 ops Q l) l (k+1) listed f M:=fun a r=>by
  simp only [Bool.and_eq_true,Bool.not_eq_true'] at hB
  have hr:i∈Region.ready .any ops listed:=by simpa using hB.1.1
  exact tt_quiet (Region.noSelect_spec hs) (fun _=>True) (fun _ _ _ _ _=>trivial) (fun listed i _ _ _ j hj=>lt_of_ready hj) (fun listed a M h j hj=>by rw [List.isEmpty_iff.1 h.1] at hj;cases hj) ho (lt_of_ready hr) hB.2 k listed a M trivial
    (Region.free_spec ho hB.1.2) hr (.inl ⟨hw a r,qp_call hc hI r h⟩) (t _ (r.put hd v))
theorem rg_soft {K:Act→List HProp→Prop} {r:List Oper} (hw:Wn n ops ⟨some d,.call ⟨.value (.func c),args,as⟩,ty,pos,aft,g⟩ f true) (hc:callB P c=true) (hI:initB P c=true)
    (h:∀ M,OS P w0 n ⟨some d,.call ⟨.value (.func c),args,as⟩,ty,pos,aft,g⟩ f (l++M) fun u l'=>u=v∧l'=l++M)
    (t:RG P w0 n ops imps K l r (k+1) (upd f d v) M) (hd:Nat.ble (d+1) n=true:=by rfl) (hk:imps.contains k=false:=by rfl):RG P w0 n ops imps K l (⟨some d,.call ⟨.value (.func c),args,as⟩,ty,pos,aft,g⟩::r) k f M:=fun a ra w s=>by
  unfold CL Wd
  rw [if_pos (hw a ra),if_neg (by rw [hk];simp)]
  exact ⟨v,qp_call hc hI ra h,t _ (ra.put hd v)⟩
end
def B (l:List UInt8):ByteArray:=⟨l.toArray⟩
theorem B_toList (l:List UInt8):(B l).toList=l:=by rw [ByteArray.toList_eq];rfl
theorem B_size (l:List UInt8):(B l).size=l.length:=by simp [B,ByteArray.size]
theorem B_data (s:ByteArray):B s.data.toList=s:=by simp [B]
theorem B_append (a b:List UInt8):B a++B b=B (a++b):=by
  apply ByteArray.ext
  simp [B]
theorem B_extract (l:List UInt8) (i j:Nat):(B l).extract i j=B ((l.take j).drop i):=by
  apply ByteArray.ext
  simp only [B,ByteArray.data_extract]
  apply Array.ext'
  simp [List.drop_take]
section
variable {P:Program} {w0:World} {n:Nat} {f:Fr} {l l':List HProp} {d:Option Tmp} {ty:TypeId} {pos:String} {aft:Array Edge} {g:Option (Nat×Bool)} {x y:Operand} {v u:Value} {T T':TypeId}
section two
variable {a b:List UInt8} (hx:ev f x=.string (B a)) (hy:ev f y=.string (B b))
include hx hy
theorem op_seql:OP P w0 n ⟨d,.binOp .eql T x y T',ty,pos,aft,g⟩ f l (.bool (decide (a=b))):=fun M A w r s=>by
  simp [execOp,r.eval,hx,hy,eqGuard,binOp,Op.stringOp,B_toList]
  by_cases h:a=b<;>simp [h]
theorem op_slss:OP P w0 n ⟨d,.binOp .lss T x y T',ty,pos,aft,g⟩ f l (.bool (Op.bytesLess a b)):=fun M A w r s=>by
  simp [execOp,r.eval,hx,hy,eqGuard,binOp,Op.stringOp,B_toList]
theorem op_sadd (h:a.length+b.length≤9223372036854775807):OP P w0 n ⟨d,.binOp .add T x y T',ty,pos,aft,g⟩ f l (.string (B (a++b))):=fun M A w r s=>by
  have h':¬ (9223372036854775807<((a.length:Int)+(b.length:Int))):=by omega
  simp [execOp,r.eval,hx,hy,eqGuard,binOp,Op.stringOp,B_size,IntKind.max,IntKind.bits,IntKind.signed,h',B_append]
end two
theorem op_len_string {a:List UInt8} (hu:P.underlying T=some .string) (hx:ev f x=.string (B a)):OP P w0 n ⟨d,.call ⟨.builtin .len,#[x],#[T]⟩,ty,pos,aft,g⟩ f l (.int .i64 a.length):=fun M A w r s=>by
  simp [execOp,resolve,invoke,builtin,r.eval,hx,Builtin.len_,run_underlying hu,goInt,B_size]
theorem op_sidx {a:List UInt8} {k:IntKind} {i:Int} (j:Nat) (hu:P.underlying T=some .string) (hx:ev f x=.string (B a)) (hy:ev f y=.int k i) (hj:i=(j:Int)) (h:j<a.length):OP P w0 n ⟨d,.index T x y,ty,pos,aft,g⟩ f l (.int .u8 ((a.getD j 0).toNat:Int)):=fun M A w r s=>by
  subst hj
  have h1:(B a)[j]? = some a[j]:=by
    have:j<(B a).size:=by rw [B_size];exact h
    rw [getElem?_pos (B a) j this]
    congr 1
  simp [execOp,r.eval,hx,hy,Instr.index,asIntOf,run_underlying hu,h1,List.getD_eq_getElem?_getD,List.getElem?_eq_getElem h]
theorem op_sslice_to {a:List UInt8} {k:IntKind} {i:Int} (j:Nat) (hu:P.underlying T=some .string) (hx:ev f x=.string (B a)) (hy:ev f y=.int k i) (hj:i=(j:Int)) (h:j≤a.length):OP P w0 n ⟨d,.slice T x none (some y) none,ty,pos,aft,g⟩ f l (.string (B (a.take j))):=fun M A w r s=>by
  subst hj
  have h':(j:Int)≤(a.length:Int):=by omega
  simp [execOp,r.eval,hx,hy,Instr.sliceAt,Instr.slice,Instr.sliceBounds,Instr.sliceBound,asIntOf,run_underlying hu,B_size,h,B_extract]
theorem op_sslice_from {a:List UInt8} {k:IntKind} {i:Int} (j:Nat) (hu:P.underlying T=some .string) (hx:ev f x=.string (B a)) (hy:ev f y=.int k i) (hj:i=(j:Int)) (h:j≤a.length):OP P w0 n ⟨d,.slice T x (some y) none none,ty,pos,aft,g⟩ f l (.string (B (a.drop j))):=fun M A w r s=>by
  subst hj
  have h':(j:Int)≤(a.length:Int):=by omega
  have h2:a.take a.length=a:=List.take_of_length_le (Nat.le_refl _)
  simp [execOp,r.eval,hx,hy,Instr.sliceAt,Instr.slice,Instr.sliceBounds,Instr.sliceBound,asIntOf,run_underlying hu,B_size,h,B_extract,h2]
theorem op_sslice {a:List UInt8} {k k':IntKind} {z:Operand} {i0 i1:Int} (j0 j1:Nat) (hu:P.underlying T=some .string) (hx:ev f x=.string (B a)) (hy:ev f y=.int k i0) (hz:ev f z=.int k' i1) (hj0:i0=(j0:Int)) (hj1:i1=(j1:Int)) (h0:j0≤j1) (h:j1≤a.length) :
    OP P w0 n ⟨d,.slice T x (some y) (some z) none,ty,pos,aft,g⟩ f l (.string (B ((a.take j1).drop j0))):=fun M A w r s=>by
  subst hj0;subst hj1
  have h':(j1:Int)≤(a.length:Int):=by omega
  have h'':(j0:Int)≤(j1:Int):=by omega
  simp [execOp,r.eval,hx,hy,hz,Instr.sliceAt,Instr.slice,Instr.sliceBounds,Instr.sliceBound,asIntOf,run_underlying hu,B_size,h,h0,B_extract]
theorem op_beql {a b:Bool} (hu:P.underlying T=some .bool) (hx:ev f x=.bool a) (hy:ev f y=.bool b):OP P w0 n ⟨d,.binOp .eql T x y T',ty,pos,aft,g⟩ f l (.bool (decide (a=b))):=fun M A w r s=>by
  obtain ⟨k,hk⟩:=equal_depth T (.bool a) (.bool b)
  have h1:(Op.equal T (.bool a) (.bool b)).run P w=.ok (a == b) w:=by rw [hk];unfold Op.equalIn;simp [run_underlying hu]
  simp only [execOp,r.eval,hx,hy,binOp]
  simp [eqGuard,h1]
  cases a<;>cases b<;>rfl
end
def oad (ao:Option Addr) (k:Nat):Option Addr:=ao.map (·.add k)
theorem addr_add_add (a:Addr) (i j:Nat):(a.add i).add j=a.add (i+j):=by
  unfold Addr.add
  by_cases h1:i=0
  · subst h1;simp
  · by_cases h2:j=0
    · subst h2;simp
    · simp [h1,h2,Nat.add_assoc]
/-- In every world of the context the address shows these elements. -/
def Rds (w0:World) {α:Type} (l:List HProp) (E:Enc α) (ao:Option Addr) (xs:List α):Prop :=
  ∀ M w,Sat w0 w (M++l)→(ao=none→xs=[])∧∀ ad,ao=some ad→∀ j u,(E.flat xs)[j]? = some u→w.cell? (ad.add j)=some u
section
variable {α:Type} {E:Enc α} {w0:World} {l:List HProp} {ao:Option Addr} {xs:List α}
theorem Sat.front {w:World} {M:List HProp} (i:Nat) {X:HProp} (s:Sat w0 w (M++l)) (hl:l[i]? = some X):∃ m,Sat w0 w (X::m):=by
  have:=s.pull (M.length+i)
  have h1:(M++l)[M.length+i]? = some X:=by rw [List.getElem?_append_right (by omega)];simpa using hl
  rw [List.getD_eq_getElem?_getD,h1] at this
  exact ⟨_,this⟩
theorem rds_row (i:Nat) {e:TypeId} {v:Value} {m c:Nat} (hl:l[i]? = some (Row e E v xs)) (hv:v=.slice ao m c):Rds w0 l E ao xs:=fun M w s=>by
  obtain ⟨m',s'⟩:=s.front i hl
  exact s'.rowCells _ _ _ hv
theorem Sat.cell_old {w:World} {m:List HProp} (s:Sat w0 w (Old w0 []::m)) {a:Addr} {v:Value} (h:w0.cell? a=some v):w.cell? a=some v:=by
  have hb:=World.block_lt_of_cell? w0 a h
  exact (World.cell?_of_block (s.below.block a.block hb)).trans h
theorem rds_old (i:Nat) (hl:l[i]? = some (Old w0 [])) (h1:ao=none→xs=[]) (h2:∀ ad,ao=some ad→∀ j u,(E.flat xs)[j]? = some u→w0.cell? (ad.add j)=some u):Rds w0 l E ao xs:=fun M w s=>by
  obtain ⟨m',s'⟩:=s.front i hl
  exact ⟨h1,fun ad ha j u hu=>s'.cell_old (h2 ad ha j u hu)⟩
theorem Rds.app (h:Rds w0 l E ao xs) (X:List HProp):Rds w0 (X++l) E ao xs:=fun M w s=>h (M++X) w (by simpa using s)
theorem Rds.cons (h:Rds w0 l E ao xs) (X:HProp):Rds w0 (X::l) E ao xs:=h.app [X]
theorem Rds.perm {l':List HProp} (h:Rds w0 l E ao xs) (hp:l.Perm l'):Rds w0 l' E ao xs:=fun M w s=>h M w (s.perm (hp.symm.append_left M))
theorem Rds.tl (h:Rds w0 l E ao xs) (M:List HProp):Rds w0 (l++M) E ao xs:=(h.app M).perm List.perm_append_comm
theorem rds_nil (E:Enc α):Rds w0 l E none []:=fun M w s=>⟨fun _=>rfl,fun ad h=>by cases h⟩
theorem Rds.take (h:Rds w0 l E ao xs) (k:Nat):Rds w0 l E ao (xs.take k):=fun M w s=>by
  obtain ⟨h1,h2⟩:=h M w s
  refine ⟨fun e=>by rw [h1 e];simp,fun ad ha j u hu=>h2 ad ha j u ?_⟩
  have:E.flat xs=E.flat (xs.take k)++E.flat (xs.drop k):=by rw [←E.flat_append,List.take_append_drop]
  rw [this,List.getElem?_append_left (List.getElem?_eq_some_iff.1 hu).1]
  exact hu
theorem Rds.drop (h:Rds w0 l E ao xs) (k:Nat) (hk:k≤xs.length):Rds w0 l E (oad ao (k*E.size)) (xs.drop k):=fun M w s=>by
  obtain ⟨h1,h2⟩:=h M w s
  cases ao with
  | none=>exact ⟨fun _=>by rw [h1 rfl];simp,fun ad ha=>by cases ha⟩
  | some a0 =>
    refine ⟨fun e=>(by cases e),fun ad ha j u hu=>?_⟩
    cases ha
    rw [addr_add_add]
    refine h2 a0 rfl _ u ?_
    have:E.flat xs=E.flat (xs.take k)++E.flat (xs.drop k):=by rw [←E.flat_append,List.take_append_drop]
    rw [this,List.getElem?_append_right (by rw [E.flat_length,List.length_take,Nat.min_eq_left hk];omega),E.flat_length,List.length_take,Nat.min_eq_left hk]
    simpa using hu
/-- cut at the end of the capacity the address stays -/
theorem Rds.cut (h:Rds w0 l E ao xs) (k c:Nat) (hk:k≤xs.length) (hc:xs.length≤c):Rds w0 l E (if c=k then ao else oad ao (k*E.size)) (xs.drop k):=by
  split
  · rename_i e
    have:xs.drop k=[]:=List.drop_eq_nil_of_le (by omega)
    rw [this]
    intro M w s
    exact ⟨fun _=>rfl,fun ad ha j u hu=>by simp [Enc.flat] at hu⟩
  · exact h.drop k hk
end
section
variable {P:Program} {w0:World} {n:Nat} {f:Fr} {l l':List HProp} {d:Option Tmp} {ty:TypeId} {pos:String} {aft:Array Edge} {g:Option (Nat×Bool)} {x y:Operand} {v u:Value} {T T':TypeId} {α:Type} {E:Enc α} {ao:Option Addr} {xs:List α}
theorem sliceB_spec {e sz by_:Nat} (h:sliceB P T=some (e,sz,by_)):P.underlying T=some (.slice e)∧∃ i,P.info? e=some i∧i.size=sz∧i.bytes=by_:=by
  unfold sliceB at h
  split at h
  · rename_i e' hu
    obtain ⟨i,hi,h2⟩:=Option.map_eq_some_iff.1 h
    cases h2
    exact ⟨hu,i,hi,rfl,rfl⟩
  · cases h
/-- &v[i] -/
theorem op_index {e by_ m c:Nat} {k:IntKind} {i:Int} (j:Nat) (hT:sliceB P T=some (e,E.size,by_)) (hx:ev f x=.slice ao m c) (hy:ev f y=.int k i) (hj:i=(j:Int)) (hr:Rds w0 l E ao xs) (hm:xs.length=m) (h:j<xs.length) :
    OP P w0 n ⟨d,.indexAddr T x y,ty,pos,aft,g⟩ f l (.pointer (oad ao (j*E.size))):=fun M A w r s=>by
  subst hj
  obtain ⟨hu,q,hq,hs,_⟩:=sliceB_spec hT
  obtain ⟨h1,_⟩:=hr M w s
  cases ao with
  | none=>rw [h1 rfl] at h;simp at h
  | some ad =>
    have h2:(j:Int)<(m:Int):=by omega
    have h3:j<m:=by omega
    simp [execOp,r.eval,hx,hy,Instr.indexAt,asIntOf,run_underlying hu,h3,sizeOf,typeInfo,hq,hs,oad]
/-- &p.f of an element -/
theorem op_fielde {i o q:Nat} (hB:fieldB P T i=some o) (hx:ev f x=.pointer (oad ao q)) (hr:Rds w0 l E ao xs) (hne:0<xs.length):OP P w0 n ⟨d,.fieldAddr T x i,ty,pos,aft,g⟩ f l (.pointer (oad ao (q+o))):=fun M A w r s=>by
  obtain ⟨h1,_⟩:=hr M w s
  cases ao with
  | none=>rw [h1 rfl] at hne;simp at hne
  | some ad =>
    unfold fieldB at hB
    split at hB
    · rename_i fs hu
      split at hB
      · rename_i fd hf
        split at hB
        · rename_i q' hq
          split at hB
          · cases hB
          · rename_i hz
            cases hB
            simp [execOp,r.eval,hx,Instr.fieldAt,run_underlying hu,hf,oad,Instr.sureAddr,fieldPlace,sizeOf,typeInfo,hq,hz,addr_add_add]
        · cases hB
      · cases hB
    · cases hB
theorem rds_cell {M:List HProp} {w:World} (hr:Rds w0 l E ao xs) (s:Sat w0 w (M++l)) (i j:Nat) (hi:i<xs.length) (hj:j<E.size):∃ ad,ao=some ad∧w.cell? (ad.add (i*E.size+j))=(E.cells xs[i])[j]?:=by
  obtain ⟨h1,h2⟩:=hr M w s
  cases ao with
  | none=>rw [h1 rfl] at hi;simp at hi
  | some ad =>
    refine ⟨ad,rfl,?_⟩
    have h3:=E.flat_get xs i j hj hi
    have h4:(E.cells xs[i])[j]? = some ((E.cells xs[i])[j]'(by rw [E.len];exact hj)):=List.getElem?_eq_getElem _
    rw [h4] at h3 ⊢
    exact h2 ad rfl _ _ h3
/-- one cell of an element -/
theorem op_lde {q:Nat} (i j:Nat) (hT:scalarB P T=true) (hx:ev f x=.pointer (oad ao q)) (hr:Rds w0 l E ao xs) (hi:i<xs.length) (hj:Nat.ble (j+1) E.size=true) (hq:q=i*E.size+j) (hv:(E.cells xs[i])[j]? = some v) :
    OP P w0 n ⟨d,.load T x,ty,pos,aft,g⟩ f l v:=fun M A w r s=>by
  subst hq
  obtain ⟨ad,rfl,hc⟩:=rds_cell hr s i j hi (Nat.le_of_ble_eq_true hj)
  rw [hv] at hc
  simp [execOp,r.eval,hx,oad,Instr.loadAt,Instr.sureAddr,loadVar,Sem.run_bind,(isAgg_scalar hT w).1,load,Sem.run,hc]
/-- several cells of an element -/
theorem op_ldea {q k:Nat} {L:List Value} (i j:Nat) (hT:aggB P T=some k) (hx:ev f x=.pointer (oad ao q)) (hr:Rds w0 l E ao xs) (hi:i<xs.length) (hj:Nat.ble (j+k) E.size=true) (hq:q=i*E.size+j) (hv:((E.cells xs[i]).drop j).take k=L) :
    OP P w0 n ⟨d,.load T x,ty,pos,aft,g⟩ f l (.agg L.toArray):=fun M A w r s=>by
  subst hq
  have hj':j+k≤E.size:=Nat.le_of_ble_eq_true hj
  have hlen:L.length=k:=by rw [←hv];simp [E.len];omega
  obtain ⟨h1,h2⟩:=hr M w s
  cases ao with
  | none=>rw [h1 rfl] at hi;simp at hi
  | some ad =>
    have hl:(loadCells (ad.add (i*E.size+j)) L.length).run P w=.ok L.toArray w:=run_loadCells_list (P:=P) w _ L fun z u hu=>by
      rw [addr_add_add]
      refine h2 ad rfl _ u ?_
      have hz:z<k:=by rw [←hlen];exact (List.getElem?_eq_some_iff.1 hu).1
      rw [Nat.add_assoc,E.flat_get xs i (j+z) (by omega) hi]
      rw [←hv,List.getElem?_take_of_lt hz,List.getElem?_drop] at hu
      exact hu
    rw [hlen] at hl
    simp [execOp,r.eval,hx,oad,Instr.loadAt,Instr.sureAddr,loadVar,Sem.run_bind,(isAgg_agg hT w).1,(isAgg_agg hT w).2,hl]
/-- a store into one cell of an element of an owned slice -/
theorem os_ste {q e m c:Nat} {x':α} (i j:Nat) (hT:scalarB P T=true) (hx:ev f x=.pointer (oad ao q)) (hy:ev f y=v) (h1:v.oneCell'=true) (hi:i<xs.length) (hj:Nat.ble (j+1) E.size=true) (hq:q=i*E.size+j) (hv:u=.slice ao m c)
    (hx':E.cells x'=(E.cells xs[i]).set j v):OS P w0 n ⟨d,.store T x y,ty,pos,aft,g⟩ f (Row e E u xs::l) (fun z l'=>z=undef∧l'=Row e E u (xs.set i x')::l):=fun a w r s=>by
  subst hq
  have hj':j<E.size:=Nat.le_of_ble_eq_true hj
  rcases s.rowOpen with ⟨rfl,rfl,s'⟩ | ⟨g0,off,cap,cur,fr,rfl,h2,h3,h4,h5,hf,s'⟩
  · simp at hi
  · injection hv with hv1 _ _
    subst hv1
    have hadd:(⟨g0,off,none⟩:Addr).add (i*E.size+j)=⟨g0,off+(i*E.size+j),none⟩:=by unfold Addr.add;split<;>simp_all
    have hle:i*E.size+j<xs.length*E.size:=by
      have:(i+1)*E.size≤xs.length*E.size:=Nat.mul_le_mul_right _ hi
      rw [Nat.add_mul] at this;omega
    have hle2:xs.length*E.size≤cap*E.size:=Nat.mul_le_mul_right _ h2
    have hlt:off+(i*E.size+j)<cur.size:=by omega
    have hst:=run_store_row P w g0 (off+(i*E.size+j)) cur e fr v s'.blk hlt h1 hf
    have hcells:v.cells=#[v]:=by cases v<;>simp_all [Value.oneCell',Value.cells]
    have hadd0:(⟨g0,off+(i*E.size+j),none⟩:Addr).add 0=⟨g0,off+(i*E.size+j),none⟩:=rfl
    simp [execOp,r.eval,hx,hy,oad,hadd,Instr.storeAt,Instr.sureAddr,storeVar,(isAgg_scalar hT w).2,hcells,storeCells,hadd0,hst,gives]
    have:=(s'.setRow (cs':=cur.setIfInBounds (off+(i*E.size+j)) v)).rowMk (E:=E) (xs:=xs.set i x') (off:=off) (cap:=cap) (by simpa using hf) (by simpa using h2) h3 (by simpa using h4) (by
      simp only [Array.toList_setIfInBounds,List.length_set]
      rw [←E.flat_set xs i j x' hi hj' v hx',←h5,List.drop_set,if_neg (by omega),List.take_set]
      congr 1
      omega)
    simpa using this
/-- make([]T,n) -/
theorem madeCells_flat {z:α} (hz:E.size=(E.cells z).length) (k:Nat):(madeCells (E.cells z).toArray (k*E.size)).toList=E.flat (List.replicate k z):=by
  apply List.ext_getElem?
  intro j
  by_cases hj:j<k*E.size
  · have hq:j / E.size<k:=Nat.div_lt_of_lt_mul (by rw [Nat.mul_comm];exact hj)
    have hm:j % E.size<E.size:=Nat.mod_lt _ E.pos
    have h1:=E.flat_get (List.replicate k z) (j / E.size) (j % E.size) hm (by simpa using hq)
    have h2:j / E.size*E.size+j % E.size=j:=by rw [Nat.mul_comm];exact Nat.div_add_mod j E.size
    rw [h2] at h1
    rw [h1]
    simp only [madeCells,Array.toList_map,Array.toList_range,List.getElem?_map,List.getElem?_range hj,Option.map_some,List.getElem_replicate,List.size_toArray]
    rw [←hz,List.getElem?_eq_getElem (by rw [←hz];exact hm)]
    congr 1
    rw [getElem!_pos _ _ (by simp [←hz,hm])]
    simp
  · rw [List.getElem?_eq_none (by simp [size_madeCells];omega),List.getElem?_eq_none (by rw [E.flat_length];simpa using hj)]
theorem os_make {e by_:Nat} {k k':IntKind} {i:Int} {zv:Value} (m:Nat) (z:α) (hT:sliceB P T=some (e,E.size,by_)) (hzv:(P.info? e).bind (·.zero)=some zv) (hz:zv.cells=(E.cells z).toArray) (hx:ev f x=.int k i) (hy:ev f y=.int k' i) (hi:i=(m:Int)) (hb:by_*m≤281474976710656) (hm:m≤maxLen) :
    OS P w0 n ⟨d,.makeSlice T x y,ty,pos,aft,g⟩ f l (fun v l'=>∃ ao,v=.slice ao (List.replicate m z).length m∧l'=Row e E v (List.replicate m z)::l):=fun a w r s=>by
  subst hi
  obtain ⟨hu,q,hq,hs,hb'⟩:=sliceB_spec hT
  have hzz:q.zero=some zv:=by simpa [hq] using hzv
  have hr:=run_make (P:=P) w T e q zv hu hq hzz k k' m m (by omega) (by omega) (by rw [hb',←Int.natCast_mul];omega) (by unfold maxLen at hm;omega)
  simp [execOp,r.eval,hx,hy,hr,gives]
  have h3:(madeCells zv.cells (m*q.size)).toList=E.flat (List.replicate m z):=by rw [hz,hs];exact madeCells_flat (E.len z).symm m
  have:=(s.alloc (.cells (madeCells zv.cells (m*q.size)) e)).rowMk (E:=E) (xs:=List.replicate m z) (off:=0) (cap:=m) (Free.zero _) (by simp) hm (by simp [size_madeCells,hs]) (by
    rw [List.drop_zero,h3,List.length_replicate,List.take_of_length_le (by rw [E.flat_length];simp)])
  simpa using this
theorem os_makeMap:OS P w0 n ⟨d,.makeMap T none,ty,pos,aft,g⟩ f l (fun v l'=>∃ b,v=.map (some b)∧l'=Blk b (.map #[] 0)::l):=fun a w r s=>by
  simp [execOp,RowKit.run_makeMap,gives]
  exact s.alloc _
/-- append(v,y): the new element lies in a block of its own -/
theorem os_append {e by_:Nat} {zv:Value} {sv:Value} {as:Array TypeId} {bo:Option Addr} {m c:Nat} {ys:List α} (has:as=#[T,T]) (hT:sliceB P T=some (e,E.size,by_)) (hzv:(P.info? e).bind (·.zero)=some zv) (hzs:zv.cells.size=E.size) (hx:ev f x=sv) (hy:ev f y=.slice bo m c)
    (hr:∀ w,Sat w0 w (Row e E sv xs::l)→(bo=none→ys=[])∧∀ ad,bo=some ad→∀ j u,(E.flat ys)[j]? = some u→w.cell? (ad.add j)=some u) (hm:ys.length=m) (hb:(xs.length+m)*by_≤140737488355328) (hml:xs.length+m≤maxLen) :
    OS P w0 n ⟨d,.call ⟨.builtin .append,#[x,y],as⟩,ty,pos,aft,g⟩ f (Row e E sv xs::l) (fun v l'=>∃ ao k,v=.slice ao (xs++ys).length k∧l'=Row e E v (xs++ys)::l):=fun a w r s=>by
  subst has
  obtain ⟨hu,q,hq,hs,hb'⟩:=sliceB_spec hT
  have hzz:q.zero=some zv:=by simpa [hq] using hzv
  obtain ⟨v',w',hrun,s'⟩:=run_append_row (P:=P) (ty:=ty) hu hq hzz hs hb' hzs s bo m c ys hm (hr w s).1 (hr w s).2 hb hml
  obtain ⟨ao,k,hv,_⟩:=s'.rowSlice
  simp [execOp,resolve,invoke,builtin,r.eval,hx,hy,hrun,gives]
  subst hm
  exact ⟨_,⟨⟨ao,k,by simpa using hv⟩,rfl⟩,s'⟩
/-- string(v) -/
def encU8:Enc UInt8:=⟨fun b=>[.int .u8 (b.toNat:Int)],1,fun _=>rfl,fun x u hu=>by simp at hu;subst hu;rfl,by omega⟩
theorem encU8_flat (xs:List UInt8):encU8.flat xs=xs.map fun b=>.int .u8 (b.toNat:Int):=by
  induction xs with
  | nil=>rfl
  | cons x xs ih=>rw [encU8.flat_cons,ih];rfl
theorem op_b2s {e by_ m c:Nat} {xs:List UInt8} (hT:sliceB P T=some (e,1,by_)) (he:P.underlying e=some (.int .u8)) (hd:P.underlying T'=some .string) (hx:ev f x=.slice ao m c) (hr:Rds w0 l encU8 ao xs) (hm:xs.length=m) :
    OP P w0 n ⟨d,.convert T T' x,ty,pos,aft,g⟩ f l (.string (B xs)):=fun M A w r s=>by
  subst hm
  obtain ⟨hu,q,hq,hs,hb'⟩:=sliceB_spec hT
  obtain ⟨h1,h2⟩:=hr M w s
  have hrun:(convert T T' (.slice ao xs.length c)).run P w=.ok (.string (B xs)) w:=by
    cases ao with
    | none =>
      rw [h1 rfl]
      exact run_convert_bytes_nil w T e hu he _ _ T' hd
    | some ad =>
      have hl:(loadCells ad xs.length).run P w=.ok ((xs.map fun b=>(b.toNat:Int)).map (Value.int .u8)).toArray w:=by
        have:=run_loadCells_list (P:=P) w ad (encU8.flat xs) (h2 ad rfl)
        rw [encU8.flat_length,encU8_flat,show encU8.size=1 from rfl,Nat.mul_one] at this
        rw [this,List.map_map]
        rfl
      rw [run_convert_bytes_string w T T' e _ xs.length c hu he hd,run_bytesToString w ad xs.length c _ hl,foldl_push_bytes]
      congr 2
      simp [B,ByteArray.empty,ByteArray.emptyWithCapacity,List.map_map,Function.comp_def]
      rfl
  simp [execOp,r.eval,hx,hrun]
end
theorem foldl_cells:∀ (L:List Value) (k b:Nat) (cs:Array Value),b+k+L.length≤cs.size →
    (L.zipIdx k).foldl (fun cs (p:Value×Nat)=>cs.setIfInBounds (b+p.2) p.1) cs=(cs.toList.take (b+k)++L++cs.toList.drop (b+k+L.length)).toArray
  | [],k,b,cs,_=>by simp
  | v::L,k,b,cs,h=>by
    simp only [List.length_cons] at h
    have hL:b+k<cs.toList.length:=by simp;omega
    have ih:=foldl_cells L (k+1) b (cs.setIfInBounds (b+k) v) (by simp;omega)
    simp only [List.zipIdx_cons,List.foldl_cons,ih,Array.toList_setIfInBounds]
    have h1:(cs.toList.set (b+k) v).take (b+(k+1))=cs.toList.take (b+k)++[v]:=by
      rw [show b+(k+1)=(b+k)+1 by omega,List.take_add_one,List.take_set_of_le (Nat.le_refl _),List.getElem?_set_self hL]
      rfl
    have h2:(cs.toList.set (b+k) v).drop (b+(k+1)+L.length)=cs.toList.drop (b+k+(v::L).length):=by
      rw [List.drop_set_of_lt (by omega)]
      congr 1
      simp only [List.length_cons];omega
    rw [h1,h2]
    simp
theorem fill_all (size:Nat):∀ (vs:List Value) (k:Nat) (cs:Array Value),(∀ v∈vs,v.cells.size=size)→(k+vs.length)*size≤cs.size →
    Instr.fill (fun i=>some (i*size,size)) cs ((vs.zipIdx k).map fun p=>(p.2,p.1))=some (cs.toList.take (k*size)++vs.flatMap (·.cells.toList)++cs.toList.drop ((k+vs.length)*size)).toArray
  | [],k,cs,_,_=>by simp [Instr.fill]
  | v::vs,k,cs,h,hs=>by
    have hv:=h v (by simp)
    simp only [List.length_cons] at hs
    have hm:(k+(vs.length+1))*size=k*size+size+vs.length*size:=by rw [Nat.add_mul,Nat.add_mul,Nat.one_mul];omega
    have hsz:k*size+size+vs.length*size≤cs.size:=by rw [←hm];exact hs
    simp only [List.zipIdx_cons,List.map_cons,Instr.fill]
    rw [if_neg (by simp only [hv];simp;omega)]
    have hf:=foldl_cells v.cells.toList 0 (k*size) cs (by simp [hv];omega)
    have hz:v.cells.zipIdx.foldl (fun cs (x:Value×Nat)=>cs.setIfInBounds (k*size+x.2) x.1) cs=(v.cells.toList.zipIdx 0).foldl (fun cs (p:Value×Nat)=>cs.setIfInBounds (k*size+p.2) p.1) cs:=by
      rw [←Array.foldl_toList,Array.toList_zipIdx]
    have hvl:v.cells.toList.length=size:=by simp [hv]
    have key:=fill_all size vs (k+1) (cs.toList.take (k*size)++v.cells.toList++cs.toList.drop (k*size+size)).toArray (fun u hu=>h u (by simp [hu])) (by
      simp only [List.size_toArray,List.length_append,List.length_take,List.length_drop,hvl]
      rw [Nat.add_mul,Nat.add_mul,Nat.one_mul]
      have:cs.toList.length=cs.size:=by simp
      omega)
    have hfold:(v.cells.zipIdx.foldl (fun cs x=>match x with | (c,j)=>cs.setIfInBounds (k*size+j) c) cs)=(cs.toList.take (k*size)++v.cells.toList++cs.toList.drop (k*size+size)).toArray:=by
      refine Eq.trans (hz.trans hf) ?_
      simp [hv]
    rw [hfold,key]
    congr 2
    have hcl:cs.toList.length=cs.size:=by simp
    have ht:(cs.toList.take (k*size)).length=k*size:=by rw [List.length_take];omega
    have e1:(cs.toList.take (k*size)++v.cells.toList++cs.toList.drop (k*size+size)).take ((k+1)*size)=cs.toList.take (k*size)++v.cells.toList:=by
      rw [List.take_append_of_le_length (by rw [List.length_append,ht,hvl,Nat.add_mul];omega),List.take_of_length_le (by rw [List.length_append,ht,hvl,Nat.add_mul];omega)]
    have e2:(cs.toList.take (k*size)++v.cells.toList++cs.toList.drop (k*size+size)).drop ((k+1+vs.length)*size)=cs.toList.drop ((k+(vs.length+1))*size):=by
      have:(k+1+vs.length)*size=(cs.toList.take (k*size)++v.cells.toList).length+vs.length*size:=by
        rw [List.length_append,ht,hvl,Nat.add_mul,Nat.add_mul,Nat.one_mul]
      rw [this,List.drop_append,List.drop_eq_nil_of_le (by omega),List.nil_append,List.drop_drop]
      congr 1
      rw [hm]
      omega
    simp only [List.toList_toArray] at *
    rw [e1,e2]
    simp
section
variable {P:Program} {w0:World} {n:Nat} {f:Fr} {l l':List HProp} {d:Option Tmp} {ty:TypeId} {pos:String} {aft:Array Edge} {g:Option (Nat×Bool)} {x y:Operand} {v u:Value} {T T':TypeId} {α:Type} {E:Enc α} {ao:Option Addr} {xs:List α}
/-- []T{..}: all elements are given -/
theorem os_bslice {e by_ m:Nat} {parts:Array (Nat×Operand)} {zv:Value} (vs:List Value) (ys:List α) (hT:sliceB P T=some (e,E.size,by_)) (hzv:(P.info? e).bind (·.zero)=some zv) (hzs:zv.cells.size=E.size)
    (hp:(parts.toList.map fun p=>(p.1,ev f p.2))=(vs.zipIdx 0).map fun p=>(p.2,p.1)) (hm:m=ys.length) (hv:vs.map (·.cells.toList)=ys.map E.cells) (hb:m*E.size≤16777216) :
    OS P w0 n ⟨d,.buildSlice T m parts,ty,pos,aft,g⟩ f l (fun v l'=>∃ ao,v=.slice ao ys.length m∧l'=Row e E v ys::l):=fun a w r s=>by
  subst hm
  obtain ⟨hu,q,hq,hs,hb'⟩:=sliceB_spec hT
  have hzz:q.zero=some zv:=by simpa [hq] using hzv
  have hlen:vs.length=ys.length:=by have:=congrArg List.length hv;simpa using this
  have hcells:∀ v∈vs,v.cells.size=E.size:=fun v hvm=>by
    have h1:v.cells.toList∈vs.map (·.cells.toList):=List.mem_map.2 ⟨v,hvm,rfl⟩
    rw [hv] at h1
    obtain ⟨y,_,hy⟩:=List.mem_map.1 h1
    have:=congrArg List.length hy
    rw [E.len] at this
    simpa using this.symm
  have hflat:vs.flatMap (·.cells.toList)=E.flat ys:=by
    unfold Enc.flat
    rw [List.flatMap_def,hv,List.flatMap_def]
  have hev:(parts.map fun (i,x)=>(i,a.eval x))=(parts.map fun (i,x)=>(i,ev f x)):=by
    congr 1;funext p;obtain ⟨i,x⟩:=p;simp only [r.eval]
  have hp:(parts.map fun (i,x)=>(i,ev f x))=((vs.zipIdx 0).map fun p=>(p.2,p.1)).toArray:=by
    apply Array.toList_inj.1;rw [Array.toList_map];exact hp
  have hfill:∀ cs:Array Value,cs.size=ys.length*q.size→Instr.fill (fun i=>some (i*q.size,q.size)) cs ((vs.zipIdx 0).map fun p=>(p.2,p.1))=some (E.flat ys).toArray:=fun cs hcs=>by
    rw [fill_all q.size vs 0 _ (by rw [hs];exact hcells) (by simp [hlen,hcs])]
    congr 2
    rw [hflat]
    simp [hlen,hcs]
  have hbig:¬ (ys.length*q.size > 2 ^ 24):=by rw [hs];omega
  simp only [execOp,Instr.buildSlice]
  rw [hev,hp]
  have hend:gives P (fun v w'=>∃ l',(∃ ao,v=Value.slice ao ys.length ys.length∧l'=Row e E v ys::l)∧Sat w0 w' l') (.ok (.value (.slice (some ⟨w.heap.size,0,none⟩) ys.length ys.length)) (w.alloc (.cells (E.flat ys).toArray e))):=by
    simp only [gives]
    refine ⟨_,⟨_,rfl,rfl⟩,?_⟩
    exact (s.alloc (.cells (E.flat ys).toArray e)).rowMk (E:=E) (xs:=ys) (off:=0) (cap:=ys.length) (Free.zero _) (Nat.le_refl _) (by have:=E.pos;have h9:ys.length≤ys.length*E.size:=Nat.le_mul_of_pos_right _ E.pos;unfold maxLen;omega) (by simp [E.flat_length]) (by
      rw [List.drop_zero];exact List.take_of_length_le (by simp [E.flat_length]))
  by_cases h0:ys.length*q.size=0
  · have h1:=hfill ((Array.range (ys.length*q.size)).map ((#[]:Array Value)[· % (#[]:Array Value).size]!)) (by simp)
    simp only [h0] at h1 hbig
    have hd:=hfill ((Array.range (ys.length*q.size)).map fun _=>default) (by simp)
    rw [h0] at hd
    simp only [exists_and_right] at hend
    simp [run_underlying hu,sizeOf,typeInfo,hq,h0,h1,hd,newRow]
    exact hend
  · have h1:=hfill ((Array.range (ys.length*q.size)).map (zv.cells[· % zv.cells.size]!)) (by simp)
    have hbig':¬ (16777216<ys.length*q.size):=by simpa using hbig
    simp [run_underlying hu,sizeOf,typeInfo,zeroValue,hq,hzz,h0,h1,hbig',newRow]
    simp only [exists_and_right] at hend
    exact hend
end
/-- An operation that reads,where its order counts. -/
theorem os_q {P:Program} {w0:World} {n:Nat} {o:Oper} {f:Fr} {l:List HProp} {v:Value} (h:OP P w0 n o f l v):OS P w0 n o f l (fun u l'=>u=v∧l'=l):=fun a w r s=>by
  rw [h [] a w r s]
  exact ⟨l,⟨rfl,rfl⟩,s⟩
theorem wrap_u64 {a:Int} (h1:0≤a) (h2:a<18446744073709551616):IntKind.u64.wrap a=a:=IntWalk.u64_in a ⟨h1,by omega⟩
theorem wrap_u8_nat (A:Nat):IntKind.u8.wrap (A:Int)=((UInt8.ofNat A).toNat:Int):=by
  simp only [IntKind.wrap,IntKind.bits,IntKind.signed]
  simp [UInt8.toNat_ofNat']
theorem wrap_u64_nat (A:Nat):IntKind.u64.wrap (A:Int)=((A % 18446744073709551616:Nat):Int):=by
  simp only [IntKind.wrap,IntKind.bits,IntKind.signed]
  simp
theorem wrap_u32_nat (A:Nat):IntKind.u32.wrap (A:Int)=((A % 4294967296:Nat):Int):=by
  simp only [IntKind.wrap,IntKind.bits,IntKind.signed]
  simp
section
variable {P:Program} {w0:World} {n:Nat} {f:Fr} {l l':List HProp} {d:Option Tmp} {ty:TypeId} {pos:String} {aft:Array Edge} {g:Option (Nat×Bool)} {x y:Operand} {v u:Value} {T T':TypeId} {A C:Nat} {k k':IntKind}
theorem op_conv8 (hu:P.underlying T'=some (.int .u8)) (hT:(P.underlying T).isSome=true) (hx:ev f x=.int k (A:Int)):OP P w0 n ⟨d,.convert T T' x,ty,pos,aft,g⟩ f l (.int .u8 ((UInt8.ofNat A).toNat:Int)):=by
  have:=op_convi (w0:=w0) (n:=n) (l:=l) (d:=d) (ty:=ty) (pos:=pos) (aft:=aft) (g:=g) hu hT hx
  rwa [wrap_u8_nat] at this
theorem op_conv64 (hu:P.underlying T'=some (.int .u64)) (hT:(P.underlying T).isSome=true) (hx:ev f x=.int k (A:Int)) (h:A<18446744073709551616):OP P w0 n ⟨d,.convert T T' x,ty,pos,aft,g⟩ f l (.int .u64 (A:Int)):=by
  have:=op_convi (w0:=w0) (n:=n) (l:=l) (d:=d) (ty:=ty) (pos:=pos) (aft:=aft) (g:=g) hu hT hx
  rwa [wrap_u64 (by omega) (by omega)] at this
theorem op_convint (hu:P.underlying T'=some (.int .i64)) (hT:(P.underlying T).isSome=true) (hx:ev f x=.int k (A:Int)) (h:A<9223372036854775808):OP P w0 n ⟨d,.convert T T' x,ty,pos,aft,g⟩ f l (.int .i64 (A:Int)):=by
  have:=op_convi (w0:=w0) (n:=n) (l:=l) (d:=d) (ty:=ty) (pos:=pos) (aft:=aft) (g:=g) hu hT hx
  rwa [wrap_i64 (by omega) (by omega)] at this
theorem op_shr_nat {m:Nat} (hx:ev f x=.int k (A:Int)) (hy:ev f y=.int k' (m:Int)) (hm:m≤k.bits):OP P w0 n ⟨d,.binOp .shr T x y T',ty,pos,aft,g⟩ f l (.int k ((A / 2 ^ m:Nat):Int)):=fun M a w r s=>by
  have h1:¬ ((m:Int)<0):=by omega
  have h2:min m k.bits=m:=Nat.min_eq_left hm
  simp [execOp,r.eval,hx,hy,eqGuard_int,binOp,Op.shift,h1,h2]
  rw [Int.fdiv_eq_ediv_of_nonneg _ (by exact_mod_cast Nat.zero_le (2 ^ m))]
theorem op_shl_nat {m:Nat} (hx:ev f x=.int .u64 (A:Int)) (hy:ev f y=.int k' (m:Int)) (hm:m≤64) (h:A*2 ^ m<18446744073709551616):OP P w0 n ⟨d,.binOp .shl T x y T',ty,pos,aft,g⟩ f l (.int .u64 ((A*2 ^ m:Nat):Int)):=fun M a w r s=>by
  have h1:¬ ((m:Int)<0):=by omega
  have h2:min m IntKind.u64.bits=m:=Nat.min_eq_left hm
  have h3:IntKind.u64.wrap ((A:Int)*2 ^ m)=((A*2 ^ m:Nat):Int):=by
    have:((A:Int)*2 ^ m)=((A*2 ^ m:Nat):Int):=by simp
    rw [this,wrap_u64 (by omega) (by omega)]
  simp [execOp,r.eval,hx,hy,eqGuard_int,binOp,Op.shift,h1,h2,h3]
theorem op_or64 (hx:ev f x=.int .u64 (A:Int)) (hy:ev f y=.int .u64 (C:Int)) (hA:A<18446744073709551616) (hC:C<18446744073709551616):OP P w0 n ⟨d,.binOp .or T x y T',ty,pos,aft,g⟩ f l (.int .u64 ((A ||| C:Nat):Int)):=fun M a w r s=>by
  have h3:A ||| C<18446744073709551616:=Nat.or_lt_two_pow (n:=64) hA hC
  simp only [execOp,r.eval,hx,hy,binOp]
  simp [eqGuard_int,Op.intBits]
  show IntKind.u64.wrap ((A % 18446744073709551616 ||| C % 18446744073709551616:Nat):Int)=_
  rw [Nat.mod_eq_of_lt hA,Nat.mod_eq_of_lt hC,wrap_u64 (by omega) (by omega)]
theorem op_addn (hx:ev f x=.int .u64 (A:Int)) (hy:ev f y=.int .u64 (C:Int)) (h:A+C<18446744073709551616):OP P w0 n ⟨d,.binOp .add T x y T',ty,pos,aft,g⟩ f l (.int .u64 ((A+C:Nat):Int)):=by
  have:=op_addw (P:=P) (w0:=w0) (n:=n) (l:=l) (d:=d) (ty:=ty) (pos:=pos) (aft:=aft) (g:=g) (T:=T) (T':=T') hx hy
  rw [wrap_u64 (by omega) (by omega)] at this
  rw [show ((A+C:Nat):Int)=(A:Int)+(C:Int) from by omega]
  exact this
theorem op_muln (hx:ev f x=.int .u64 (A:Int)) (hy:ev f y=.int .u64 (C:Int)) (h:A*C<18446744073709551616):OP P w0 n ⟨d,.binOp .mul T x y T',ty,pos,aft,g⟩ f l (.int .u64 ((A*C:Nat):Int)):=by
  have:=op_mulw (P:=P) (w0:=w0) (n:=n) (l:=l) (d:=d) (ty:=ty) (pos:=pos) (aft:=aft) (g:=g) (T:=T) (T':=T') hx hy
  have e:(A:Int)*(C:Int)=((A*C:Nat):Int):=by simp
  rw [e,wrap_u64 (by omega) (by omega)] at this
  exact this
theorem op_remn (hx:ev f x=.int k (A:Int)) (hy:ev f y=.int k (C:Int)) (h:0<C):OP P w0 n ⟨d,.binOp .rem T x y T',ty,pos,aft,g⟩ f l (.int k ((A % C:Nat):Int)):=by
  have:=op_remw (P:=P) (w0:=w0) (n:=n) (l:=l) (d:=d) (ty:=ty) (pos:=pos) (aft:=aft) (g:=g) (T:=T) (T':=T') hx hy (by omega)
  rwa [Int.tmod_eq_emod_of_nonneg (by omega),←Int.natCast_emod] at this
theorem op_quon (hx:ev f x=.int .u64 (A:Int)) (hy:ev f y=.int .u64 (C:Int)) (h:0<C) (hA:A<18446744073709551616):OP P w0 n ⟨d,.binOp .quo T x y T',ty,pos,aft,g⟩ f l (.int .u64 ((A / C:Nat):Int)):=by
  have:=op_quow (P:=P) (w0:=w0) (n:=n) (l:=l) (d:=d) (ty:=ty) (pos:=pos) (aft:=aft) (g:=g) (T:=T) (T':=T') hx hy (by omega)
  have h2:A / C≤A:=Nat.div_le_self _ _
  rw [Int.tdiv_eq_ediv_of_nonneg (by omega),←Int.natCast_ediv] at this
  have h5:A / C<18446744073709551616:=Nat.lt_of_le_of_lt h2 hA
  generalize A / C=q at *
  rwa [wrap_u64 (by omega) (by omega)] at this
theorem op_eqn (hx:ev f x=.int k (A:Int)) (hy:ev f y=.int k (C:Int)):OP P w0 n ⟨d,.binOp .eql T x y T',ty,pos,aft,g⟩ f l (.bool (decide (A=C))):=by
  have:=op_eq (P:=P) (w0:=w0) (n:=n) (l:=l) (d:=d) (ty:=ty) (pos:=pos) (aft:=aft) (g:=g) (T:=T) (T':=T') hx hy
  have e:decide ((A:Int)=(C:Int))=decide (A=C):=by by_cases h:A=C<;>simp [h]<;>omega
  rwa [e] at this
end
def fill2 (pl:List (Nat×Nat)):List Value→List (Nat×Value)→List Value
  | cs,[]=>cs
  | cs,(i,v)::r=>match pl[i]? with
    | some (off,sz)=>fill2 pl (cs.take off++v.cells.toList++cs.drop (off+sz)) r
    | none=>cs
def FillOk (pl:List (Nat×Nat)) (n:Nat):List (Nat×Value)→Prop
  | []=>True
  | (i,v)::r=>(match pl[i]? with
    | some (off,sz)=>v.cells.size=sz∧Nat.ble (off+sz) n=true
    | none=>False)∧FillOk pl n r
theorem fill_fill2 (pl:List (Nat×Nat)) (place:Nat→Option (Nat×Nat)) (hpl:∀ i,place i=pl[i]?):∀ (vs:List (Nat×Value)) (cs:Array Value),FillOk pl cs.size vs→Instr.fill place cs vs=some (fill2 pl cs.toList vs).toArray
  | [],cs,_=>by simp [Instr.fill,fill2]
  | (i,v)::r,cs,⟨h1,h2⟩=>by
    cases hi:pl[i]? with
    | none=>rw [hi] at h1;exact h1.elim
    | some p =>
      obtain ⟨off,sz⟩:=p
      rw [hi] at h1
      obtain ⟨hs,hle⟩:=h1
      have hle':off+sz≤cs.size:=Nat.le_of_ble_eq_true hle
      have hL:cs.toList.length=cs.size:=by simp
      have hv:v.cells.toList.length=sz:=by simp [hs]
      have hf:=foldl_cells v.cells.toList 0 off cs (by simp [hs];omega)
      have hfold:(v.cells.zipIdx.foldl (fun cs x=>match x with | (c,j)=>cs.setIfInBounds (off+j) c) cs)=(cs.toList.take off++v.cells.toList++cs.toList.drop (off+sz)).toArray:=by
        have hz:v.cells.zipIdx.foldl (fun cs (x:Value×Nat)=>cs.setIfInBounds (off+x.2) x.1) cs=(v.cells.toList.zipIdx 0).foldl (fun cs (p:Value×Nat)=>cs.setIfInBounds (off+p.2) p.1) cs:=by
          rw [←Array.foldl_toList,Array.toList_zipIdx]
        refine Eq.trans (hz.trans hf) ?_
        simp [hs]
      have hsz:(cs.toList.take off++v.cells.toList++cs.toList.drop (off+sz)).toArray.size=cs.size:=by
        simp only [List.size_toArray,List.length_append,List.length_take,List.length_drop,hv];omega
      have ih:=fill_fill2 pl place hpl r (cs.toList.take off++v.cells.toList++cs.toList.drop (off+sz)).toArray (by rw [hsz];exact h2)
      simp only [Instr.fill,hpl,hi,fill2]
      rw [if_neg (by simp only [hs];simp;omega),hfold,ih]
/-- a type's zero value's cells,and where its parts lie -/
def buildB (P:Program) (T:Nat):Option (List Value×List (Nat×Nat)) :=
  match P.underlying T,(P.info? T).bind (·.zero) with
  | some (.struct fs),some z=>(fs.toList.mapM fun f=>(P.info? f.type).map fun i=>(f.offset,i.size)).map fun pl=>(z.cells.toList,pl)
  | _,_=>none
def buildA (P:Program) (T:Nat):Option (List Value×Nat) :=
  match P.underlying T,(P.info? T).bind (·.zero) with
  | some (.array _ e),some z=>(P.info? e).map fun i=>(z.cells.toList,i.size)
  | _,_=>none
def zeroB (P:Program) (T:Nat):Option Value:=(P.info? T).bind (·.zero)
theorem run_mapM_places {P:Program} (w:World):∀ (fs:List Field) (pl:List (Nat×Nat)),(fs.mapM fun f=>(P.info? f.type).map fun i=>(f.offset,i.size))=some pl →
    (fs.mapM (fun f=>do pure (f.offset,←sizeOf f.type)):Sem (List (Nat×Nat))).run P w=.ok pl w
  | [],pl,h=>by simp at h;subst h;simp
  | f::fs,pl,h=>by
    rw [List.mapM_cons] at h
    cases hi:P.info? f.type with
    | none=>simp [hi] at h
    | some i =>
      cases hr:(fs.mapM fun f=>(P.info? f.type).map fun i=>(f.offset,i.size)) with
      | none=>simp [hi,hr] at h
      | some pr =>
        simp [hi,hr] at h
        subst h
        rw [List.mapM_cons]
        have ih:=run_mapM_places w fs pr hr
        simp only [Sem.run_bind,sizeOf,typeInfo,run_program,Result.andThen_ok,hi,Sem.run_pure] at ih ⊢
        rw [ih]
        rfl
section
variable {P:Program} {w0:World} {n:Nat} {f:Fr} {l l':List HProp} {d:Option Tmp} {ty:TypeId} {pos:String} {aft:Array Edge} {g:Option (Nat×Bool)} {x y:Operand} {v u:Value} {T T':TypeId}
theorem op_build {parts:Array (Nat×Operand)} {z L:List Value} {pl:List (Nat×Nat)} {vs:List (Nat×Value)} (hB:buildB P T=some (z,pl)) (hp:(parts.toList.map fun p=>(p.1,ev f p.2))=vs) (hok:FillOk pl z.length vs) (hc:fill2 pl z vs=L) :
    OP P w0 n ⟨d,.build T parts,ty,pos,aft,g⟩ f l (.agg L.toArray):=fun M a w r s=>by
  unfold buildB at hB
  split at hB
  · rename_i fs zv hu hz
    obtain ⟨pl',hpl,he⟩:=Option.map_eq_some_iff.1 hB
    simp only [Prod.mk.injEq] at he
    obtain ⟨rfl,rfl⟩:=he
    have hev:(parts.map fun (i,x)=>(i,a.eval x))=(parts.map fun (i,x)=>(i,ev f x)):=by
      congr 1;funext p;obtain ⟨i,x⟩:=p;simp only [r.eval]
    have hp':(parts.map fun (i,x)=>(i,ev f x)).toList=vs:=by
      rw [Array.toList_map];exact hp
    obtain ⟨q,hq,hq2⟩:=Option.bind_eq_some_iff.1 hz
    have hzr:(zeroValue T).run P w=.ok zv w:=by simp [zeroValue,typeInfo,hq,hq2]
    have hfill:=fill_fill2 pl' (fun i=>(pl'.toArray)[i]?) (fun i=>by simp) vs zv.cells (by simpa using hok)
    have hm:(fs.mapM (fun f=>do pure (f.offset,←sizeOf f.type)):Sem (Array (Nat×Nat))).run P w=.ok pl'.toArray w:=by
      rw [Array.mapM_eq_mapM_toList]
      have:=run_mapM_places w fs.toList pl' hpl
      rw [←bind_pure_comp,Sem.run_bind,this]
      rfl
    simp only [execOp,Instr.build,hev,Sem.run_bind,hzr,Result.andThen_ok,run_underlying hu,hm,hp']
    rw [hfill]
    simp only [Sem.run_pure,Result.andThen_ok,hc]
  · cases hB
theorem os_alloc {zv:Value} {cs:Array Value} (hz:zeroB P T=some zv) (hc:zv.cells=cs):OS P w0 n ⟨d,.alloc T,ty,pos,aft,g⟩ f l (fun u l'=>∃ b,u=.pointer (some ⟨b,0,none⟩)∧l'=Blk b (.cells cs T (0,0))::l):=fun a w r s=>by
  subst hc
  obtain ⟨q,hq,hq2⟩:=Option.bind_eq_some_iff.1 hz
  simp [execOp,Instr.alloc,zeroValue,typeInfo,hq,hq2,newVar,newRow,gives]
  exact s.alloc _
end
def encI64:Enc Int:=⟨fun x=>[.int .i64 x],1,fun _=>rfl,fun x u hu=>by simp at hu;subst hu;rfl,by omega⟩
def encU64:Enc Nat:=⟨fun x=>[.int .u64 (x:Int)],1,fun _=>rfl,fun x u hu=>by simp at hu;subst hu;rfl,by omega⟩
def encBool:Enc Bool:=⟨fun x=>[.bool x],1,fun _=>rfl,fun x u hu=>by simp at hu;subst hu;rfl,by omega⟩
def encStr:Enc (List UInt8):=⟨fun x=>[.string (B x)],1,fun _=>rfl,fun x u hu=>by simp at hu;subst hu;rfl,by omega⟩
def encPtr:Enc (Option Addr):=⟨fun x=>[.pointer x],1,fun _=>rfl,fun x u hu=>by simp at hu;subst hu;rfl,by omega⟩
section
variable {P:Program} {w0:World} {n:Nat} {f:Fr} {l:List HProp} {α:Type} {E:Enc α} {ops:Array Oper} {Q:Exit→Act→World→Prop} {rest:List Oper}
theorem ol_rownil (e:TypeId) (h:OL P w0 n ops Q rest f (Row e E (.slice none ([]:List α).length 0) ([]:List α)::l)):OL P w0 n ops Q rest f l:=fun a w r s=>h a w r s.rowNil
end
section
variable {P:Program} {w0:World} {n:Nat} {f:Fr} {l l':List HProp} {d:Option Tmp} {ty:TypeId} {pos:String} {aft:Array Edge} {g:Option (Nat×Bool)} {x y:Operand} {v u:Value}
theorem os_storea {T b j k:Nat} {cs:Array Value} {t:TypeId} {fr:Nat×Nat} {L L':List Value} (hT:aggB P T=some k) (hx:ev f x=.pointer (some ⟨b,j,none⟩)) (hy:ev f y=.agg L.toArray) (hk:L.length=k) (h1:∀ v∈L,v.oneCell'=true) (hj:Nat.ble (j+k) cs.size=true) (hf:Free cs.size fr)
    (hc:cs.toList.take j++L++cs.toList.drop (j+k)=L'):OS P w0 n ⟨d,.store T x y,ty,pos,aft,g⟩ f (Blk b (.cells cs t fr)::l) (fun u l'=>u=undef∧l'=Blk b (.cells L'.toArray t fr)::l):=fun a w r s=>by
  subst hc hk
  have hj':j+L.length≤cs.size:=Nat.le_of_ble_eq_true hj
  have hst:=run_storeCells_row P b j t fr L 0 cs w s.blk (by omega) h1 hf
  simp only [Nat.add_zero] at hst
  have hcells:(Value.agg L.toArray).cells=L.toArray:=rfl
  simp [execOp,r.eval,hx,hy,Instr.storeAt,Instr.sureAddr,storeVar,(isAgg_agg hT w).2,hcells,hst,gives]
  exact s.setRow
end
theorem Sat.del {w0 w:World} {l:List HProp} (i:Nat) (s:Sat w0 w l):Sat w0 w (l.eraseIdx i):=by
  rcases Nat.lt_or_ge i l.length with h | h
  · have e:l.Perm (l[i]::l.eraseIdx i):=by
      rw [List.eraseIdx_eq_take_drop_succ]
      have e2:l=l.take i++l[i]::l.drop (i+1):=by rw [List.getElem_cons_drop,List.take_append_drop]
      exact (List.Perm.of_eq e2).trans List.perm_middle
    exact (s.perm e).drop
  · rw [List.eraseIdx_of_length_le h];exact s
section
variable {P:Program} {w0:World} {n:Nat} {o:Oper} {f:Fr} {l l':List HProp} {R:Value→List HProp→Prop} {A B C D E2 F2:HProp}
theorem os_map (hk:∀ w,Sat w0 w l→Sat w0 w l') (h:OS P w0 n o f l' R):OS P w0 n o f l R:=fun a w r s=>h a w r (hk w s)
theorem os_pull1 (h:OS P w0 n o f (B::A::l) R):OS P w0 n o f (A::B::l) R:=os_map (fun _ s=>s.pull 1) h
theorem os_pull2 (h:OS P w0 n o f (C::A::B::l) R):OS P w0 n o f (A::B::C::l) R:=os_map (fun _ s=>s.pull 2) h
theorem os_pull3 (h:OS P w0 n o f (D::A::B::C::l) R):OS P w0 n o f (A::B::C::D::l) R:=os_map (fun _ s=>s.pull 3) h
theorem os_pull4 (h:OS P w0 n o f (E2::A::B::C::D::l) R):OS P w0 n o f (A::B::C::D::E2::l) R:=os_map (fun _ s=>s.pull 4) h
theorem os_pull5 (h:OS P w0 n o f (F2::A::B::C::D::E2::l) R):OS P w0 n o f (A::B::C::D::E2::F2::l) R:=os_map (fun _ s=>s.pull 5) h
end
open Go.RowKit Go.ChangeShapes Go.WideShapes
section
variable {H:Type} {enc:TypeId×Value→H} {P:Program}
theorem stays_all (hl:laidOutB P=true) {W W':World} (hb:Below W.heap.size W W') {sp:Nat→Bool}:∀ {ts:List TypeId} {vs:List Value} {ds:List (DataW H)} {ps:List MemPlace},(∀ t∈ts,P.readableRec t=true∧t<P.types.size) →
    DataW.TrodAll enc P W 0 (fun _=>true) true ts vs ds ps→(∀ x∈ps,x.block<W.heap.size)→(∀ x∈ps,sp x.block=true)→DataW.TrodAll enc P W' 0 sp true ts vs ds ps
  | [],vs,ds,ps,_,h,_,_=>by
    obtain ⟨rfl,rfl,rfl⟩:=trodAll_nil h
    exact trodAll_mk0
  | t::ts,vs,ds,ps,hts,h,h1,h2=>by
    obtain ⟨v,vs',d,ds',p,q,rfl,rfl,rfl,h0,r⟩:=trodAll_cons h
    obtain ⟨hr,hrow⟩:=hts t (by simp)
    refine trodAll_cons_mk (WideElems.Trod_stays hl hr hrow h0 (fun x hx=>hb.same (h1 x (by simp [hx]))) (fun x hx=>h2 x (by simp [hx]))) (stays_all hl hb (fun t ht=>hts t (by simp [ht])) r (fun x hx=>h1 x (by simp [hx])) (fun x hx=>h2 x (by simp [hx])))
theorem law_lifted {C:Checked} {os:Os} {fid:FuncId} {fn:Func} {s:ChangeSpec} {conds:List PathCond} {tb:TypeId} (own:ownKnob C.prog.godebug=none) (started:os.Started) (noInit:C.prog.inits.idxOf? fid=none) (hfn:C.prog.funcs[fid]? = some fn)
    (witness:∃ (w:World) (tape:Tape) (i:Input),w.os=os∧(w.forCall tape i).Shaped C.prog∧i.vars=[]∧Input.okWide C.prog (w.forCall tape i) .any w.heap.size fid i ∧
      s.pre6 enc C.prog fn conds false (w.forCall tape i).memory i.args∧({}:Assume).holds C.prog (lone (Frame.enter C.prog fid i.args .normal) [] (w.forCall tape i)))
    (hl:laidOutB C.prog=true) (hts:∀ t∈fn.params.toList,C.prog.readableRec t=true∧t<C.prog.types.size) (hvars:s.vars=[]) (hres:fn.resultTypes=#[tb]) (hu:C.prog.underlying tb=some .bool)
    (hs:∀ ds:List (DataW H),ds.length=fn.params.toList.length→s.fn H (ds++[])={ results:=[.lit (.bool true)],args:=ds })
    (walk:∀ (W:World) (base:Nat) (args:Array Value) (ds:List (DataW H)) (p:List MemPlace),(∀ (j:Nat) t v,fn.params[j]? = some t→args[j]? = some v→Value.okWide C.prog W .any base t v) →
      DataW.TrodAll enc C.prog W 0 (fun _=>true) true fn.params.toList args.toList ds p→Calls C.prog fid args W (Ret W fun v l'=>v=.bool true∧l'=[Old W []])) :
    ReturnsInHanded {} C os fid .any (s.pre6 enc C.prog fn conds false) (s.post enc C.prog fn false true false false):=by
  refine returnsInHanded_of_change own started noInit hfn witness ?_
  intro W base args ds gs before hval hW _ _
  have hW':=hW
  obtain ⟨p,q,hA,hV,hbf,hfz,hnd⟩:=hW
  refine (walk W base args ds p hval hA).mono fun e W' hq=>?_
  obtain ⟨v,l',rfl,⟨rfl,rfl⟩,st⟩:=hq
  have hb:Below W.heap.size W W':=st.below
  refine ⟨_,rfl,?_⟩
  rw [hvars] at hV
  obtain ⟨rfl,rfl⟩:=trodVars_none hV
  have hlt:∀ x∈p,x.block<W.heap.size:=hA.lt
  have hlen:=(trodAll_length hA).2
  refine ⟨ds,[],before,[],p,[],hW',?_,?_,?_,?_,fun h=>by cases h⟩
  · rw [hs ds hlen,hres]
    exact trodAll_cons_mk (shut_bool hu _) trodAll_mk0
  · rw [hs ds hlen]
    exact stays_all hl hb hts hA hlt (fun x hx=>by simpa using hlt x hx)
  · rw [hs ds hlen,hvars]
    trivial
  · exact hb.frame _
end
section
variable {H:Type} {enc:TypeId×Value→H} {P:Program} {W:World} {t e:TypeId} {r:Reach} {b0:Nat} {v:Value} {d:DataW H} {ps:List MemPlace}
/-- what the cells of a type's value are -/
def Opens (enc:TypeId×Value→H) (P:Program) (W:World) (t:TypeId) (Q:List Value→Prop):Prop :=
  ∀ fuel cs x,DataW.trod enc P W 0 (fun _=>true) true fuel t cs=some x→Q cs
theorem opens_int {k:IntKind} (ht:P.underlying t=some (.int k)):Opens enc P W t (fun cs=>∃ n:Int,cs=[.int k n]∧(Lit.int k n).wf=true):=fun fuel cs x h=>by
  obtain ⟨n,h1,_,hw⟩:=DataW.trod_int ht h
  exact ⟨n,h1,hw⟩
theorem opens_string (ht:P.underlying t=some .string):Opens enc P W t (fun cs=>∃ s:List UInt8,cs=[.string (B s)]∧s.length≤maxLen):=fun fuel cs x h=>by
  obtain ⟨s,h1,_,hs⟩:=DataW.trod_string ht h
  refine ⟨s.data.toList,by rw [B_data];exact h1,?_⟩
  rw [←B_size,B_data];exact hs
theorem Opens.mono {Q Q':List Value→Prop} (h:Opens enc P W t Q) (hq:∀ cs,Q cs→Q' cs):Opens enc P W t Q':=fun fuel cs x hx=>hq cs (h fuel cs x hx)
/-- what a slice's value shows in the world -/
def Shows (W:World) {α:Type} (E:Enc α) (ao:Option Addr) (xs:List α):Prop :=
  (ao=none→xs=[])∧∀ ad,ao=some ad→∀ j u,(E.flat xs)[j]? = some u→W.cell? (ad.add j)=some u
theorem opens_slice {α:Type} (E:Enc α) {Q:α→Prop} (ht:P.underlying t=some (.slice e)) (hc:P.cellsOf e=E.size) (he:Opens enc P W e (fun cs=>∃ a,cs=E.cells a∧Q a)) :
    Opens enc P W t (fun cs=>∃ ao c xs,cs=[.slice ao (List.length xs) c]∧List.length xs≤c∧c≤maxLen∧Shows W E ao xs∧∀ a∈xs,Q a):=fun fuel cs x h=>by
  rcases DataW.trod_slice ht h with ⟨rfl,rfl⟩ | ⟨a,len,cap,elems,rest,n,_,rfl,rfl,hb,hl,hm,hlen,hel,_,_⟩
  · exact ⟨none,0,[],rfl,Nat.le_refl _,Nat.zero_le _,⟨fun _=>rfl,fun ad h=>(by cases h)⟩,fun a h=>(by cases h)⟩
  · have each:∀ i,i<len→∃ y,W.cells? 0 (a.add (i*E.size)) E.size=some (E.cells y)∧Q y:=fun i hi=>by
      have h1:=hel i hi
      have hi':i<elems.length:=by omega
      rw [List.getElem?_eq_getElem hi',hc,Option.bind_eq_some_iff] at h1
      obtain ⟨cs',h2,h3⟩:=h1
      obtain ⟨y,rfl,hq⟩:=he _ _ _ h3
      exact ⟨y,h2,hq⟩
    have big:∀ m,m≤len→∃ xs:List α,xs.length=m∧(∀ y∈xs,Q y)∧∀ j u,(E.flat xs)[j]? = some u→W.cell? (a.add j)=some u:=fun m=>by
      induction m with
      | zero=>exact fun _=>⟨[],rfl,fun y h=>(by cases h),fun j u h=>(by simp [Enc.flat] at h)⟩
      | succ m ih =>
        intro hm'
        obtain ⟨xs,h1,h2,h3⟩:=ih (by omega)
        obtain ⟨y,h4,h5⟩:=each m (by omega)
        refine ⟨xs++[y],by simp [h1],fun z hz=>?_,fun j u hj=>?_⟩
        · rcases List.mem_append.1 hz with hz | hz
          · exact h2 z hz
          · rw [List.mem_singleton.1 hz];exact h5
        · rw [Enc.flat_append] at hj
          rcases Nat.lt_or_ge j (E.flat xs).length with hlt | hge
          · rw [List.getElem?_append_left hlt] at hj
            exact h3 j u hj
          · rw [List.getElem?_append_right hge] at hj
            have hf:E.flat [y]=E.cells y:=by simp [Enc.flat]
            rw [hf] at hj
            have hj2:j-(E.flat xs).length<E.size:=by
              have:=(List.getElem?_eq_some_iff.1 hj).1
              rwa [E.len] at this
            have h6:=(World.cells?_some h4).2.2 (j-(E.flat xs).length) hj2
            have hfl:(E.flat xs).length=m*E.size:=by rw [E.flat_length,h1]
            rw [hj] at h6
            rw [←h6]
            have hadd:(a.add (m*E.size)).add (j-(E.flat xs).length)=a.add j:=by
              rw [addr_add_add];congr 1;omega
            rw [←hadd]
            try rfl
    obtain ⟨xs,h1,h2,h3⟩:=big len (Nat.le_refl _)
    exact ⟨some a,cap,xs,by rw [h1],by omega,hm,⟨fun h=>(by cases h),fun ad hd j u hj=>(by cases hd;exact h3 j u hj)⟩,h2⟩
/-- an argument's own value,by its type's outer form -/
theorem open_cells {Q:List Value→Prop} (ho:Opens enc P W t Q) (hd:DataW.Trod enc P W 0 (fun _=>true) true t v d ps):Q v.cells.toList:=by
  obtain ⟨fuel,hf⟩:=hd
  exact ho _ _ _ hf
theorem open_num {k:IntKind} (ht:P.underlying t=some (.int k)) (hval:Value.okWide P W r b0 t v) (hd:DataW.Trod enc P W 0 (fun _=>true) true t v d ps):∃ n:Int,v=.int k n∧(Lit.int k n).wf=true:=by
  obtain ⟨n,rfl⟩:=okWide_int ht hval
  obtain ⟨n',h1,h2⟩:=open_cells (opens_int ht) hd
  simp [Value.cells] at h1
  exact ⟨n',by rw [h1],h2⟩
theorem wf_u64 {n:Int} (h:(Lit.int .u64 n).wf=true):∃ a:Nat,n=(a:Int)∧a<18446744073709551616:=by
  simp [Lit.wf,IntKind.min,IntKind.max,IntKind.signed,IntKind.bits] at h
  exact ⟨n.toNat,by omega,by omega⟩
theorem wf_i64 {n:Int} (h:(Lit.int .i64 n).wf=true):-9223372036854775808≤n∧n≤9223372036854775807:=by
  simp [Lit.wf,IntKind.min,IntKind.max,IntKind.signed,IntKind.bits] at h
  exact h
/-- a slice that the caller lent: what it shows is never changed -/
theorem Shows.rds {w0:World} {α:Type} {E:Enc α} {ao:Option Addr} {xs:List α} (h:Shows w0 E ao xs) (i:Nat) {l:List HProp} (hl:l[i]? = some (Old w0 [])):Rds w0 l E ao xs:=rds_old i hl h.1 h.2
end
theorem opens_field {H:Type} {enc:TypeId×Value→H} {P:Program} {W:World} {t:TypeId} {fs:Array Field} {fuel:Nat} {cs:List Value} {x:DataW H×List MemPlace} (ht:P.underlying t=some (.struct fs)) (h:DataW.trod enc P W 0 (fun _=>true) true fuel t cs=some x) :
    cs.length=P.cellsOf t∧∀ (i:Nat) (off ty sz:Nat) (Q:List Value→Prop),(fs[i]?).map (fun f=>(f.offset,f.type))=some (off,ty)→P.cellsOf ty=sz→Opens enc P W ty Q→Q ((cs.drop off).take sz):=by
  obtain ⟨xs,n,_,_,hl,hx,hf⟩:=DataW.trod_struct ht h
  refine ⟨hl,fun i off ty sz Q hi hs ho=>?_⟩
  obtain ⟨f,hfi,he⟩:=Option.map_eq_some_iff.1 hi
  simp only [Prod.mk.injEq] at he
  obtain ⟨rfl,rfl⟩:=he
  subst hs
  have h1:=hf i f hfi
  have hi':i<xs.length:=by rw [hx];exact (Array.getElem?_eq_some_iff.1 hfi).1
  rw [List.getElem?_eq_getElem hi'] at h1
  exact ho _ _ _ h1
def readsB (P:Program) (ts:List TypeId):Bool:=ts.all fun t=>P.readableRec t && Nat.ble (t+1) P.types.size
theorem readsB_spec {P:Program} {ts:List TypeId} (h:readsB P ts=true):∀ t∈ts,P.readableRec t=true∧t<P.types.size:=fun t ht=>by
  have:=List.all_eq_true.1 h t ht
  simp only [Bool.and_eq_true] at this
  exact ⟨this.1,Nat.le_of_ble_eq_true this.2⟩
section
variable {α:Type} {E:Enc α} {w0 w:World} {l:List HProp} {e:TypeId} {v:Value} {xs:List α} {P:Program}
theorem zeroCells_flat {z:α} (k:Nat):(Builtin.zeroCells (E.cells z).toArray k).toList=E.flat (List.replicate k z):=by
  have h:=madeCells_flat (E:=E) (z:=z) (E.len z).symm k
  rw [←h]
  unfold Builtin.zeroCells madeCells
  simp [E.len]
theorem run_append_row_zeros {ty t tn:TypeId} {i:TypeInfo} {z:Value} {bytes:Nat} {kn kq:IntKind} {z0:α} (ht:P.underlying t=some (.slice e)) (htn:P.underlying tn=some (.int kn)) (hi:P.info? e=some i) (hz:i.zero=some z) (hsize:i.size=E.size) (hby:i.bytes=bytes) (hzs:z.cells=(E.cells z0).toArray)
    (s:Sat w0 w (Row e E v xs::l)) (m:Nat) (h0:0<m) (hb:(xs.length+m)*bytes≤140737488355328) (hml:xs.length+m≤maxLen) :
    ∃ v' w',(Builtin.append_ #[t,tn] ty #[v,.int kq m]).run P w=.ok v' w'∧Sat w0 w' (Row e E v' (xs++List.replicate m z0)::l):=by
  have hle:xs.length+m≤4611686018427387904∨True:=.inr trivial
  have hml':xs.length+m≤9223372036854775807:=by simpa [maxLen] using hml
  have hpos:=E.pos
  have hsz0:0<i.size:=by omega
  have hzf:(Builtin.zeroCells z.cells m).toList=E.flat (List.replicate m z0):=by rw [hzs];exact zeroCells_flat m
  have hzn:∀ k,(Builtin.zeroCells z.cells k).size=k*E.size:=fun k=>by rw [hzs,size_zeroCells];simp [E.len]
  have hmb:m*i.bytes≤140737488355328:=by
    rw [hby];exact Nat.le_trans (Nat.mul_le_mul_right bytes (Nat.le_add_left m xs.length)) hb
  have grow:∀ (base:Option Addr) (cap:Nat) (olds:List Value),olds=E.flat xs→cap<xs.length+m→(Builtin.firstCells i.size xs.length (.slice base xs.length cap)).run P w.drew=.ok olds.toArray w.drew→Sat w0 w l →
      ∃ v' w',(Builtin.append_ #[t,tn] ty #[.slice base xs.length cap,.int kq m]).run P w=.ok v' w'∧Sat w0 w' (Row e E v' (xs++List.replicate m z0)::l):=by
    intro base cap olds ho hg hold s'
    subst ho
    have hr:=Go.Lib.run_append_grow_zeros (P:=P) w t tn ty e i z kq kn ht htn hi hz base xs.length cap (E.flat xs) hold m h0 hsz0 hg (by omega) (by omega) (growslice_fits (by omega) (by rw [hby];exact hb))
    refine ⟨_,_,hr,?_⟩
    have hge:=grownCap_ge w (xs.length+m) cap e
    have hcm:=grownCap_le_maxLen w (xs.length+m) cap e hml
    have:=(s'.drew.alloc (.cells ((E.flat xs).toArray++Builtin.zeroCells z.cells m++Builtin.zeroCells z.cells (grownCap w (xs.length+m) cap e-(xs.length+m))) e)).rowMk (E:=E) (xs:=xs++List.replicate m z0) (off:=0) (cap:=grownCap w (xs.length+m) cap e) (Free.zero _) (by simpa using hge) hcm
      (by simp only [Array.size_append,List.size_toArray,hzn,E.flat_length,←Nat.add_mul,Nat.zero_add];apply Nat.mul_le_mul_right;omega)
      (by
        simp only [Array.toList_append,List.drop_zero,hzf]
        rw [←E.flat_append,←E.flat_length];exact List.take_left)
    simpa using this
  rcases s.rowOpen with ⟨rfl,rfl,s'⟩ | ⟨g,off,cap,cur,fr,rfl,h2,h3,h4,h5,hf0,s'⟩
  · exact grow none 0 [] rfl (by simpa using h0) (by simp [Builtin.firstCells]) s'
  · by_cases hroom:xs.length+m≤cap
    · have hfit:off+xs.length*E.size+(E.flat (List.replicate m z0)).length≤cur.size:=by
        rw [E.flat_length,List.length_replicate,Nat.add_assoc,←Nat.add_mul]
        have:=Nat.mul_le_mul_right E.size hroom
        omega
      have hst:=run_storeCells_row P g (off+xs.length*E.size) e fr (E.flat (List.replicate m z0)) 0 cur w s'.blk (by simpa using hfit) (E.flat_one _) hf0
      have hadd:(⟨g,off,none⟩:Addr).add (xs.length*E.size)=⟨g,off+xs.length*E.size,none⟩:=by unfold Addr.add;split<;>simp_all
      refine ⟨.slice (some ⟨g,off,none⟩) (xs++List.replicate m z0).length cap,_,?_,(s'.setRow (cs':=(cur.toList.take (off+xs.length*E.size)++E.flat (List.replicate m z0)++cur.toList.drop (off+xs.length*E.size+(E.flat (List.replicate m z0)).length)).toArray)).rowMk ?_ (by simpa using hroom) h3 ?_ ?_⟩
      · simp only [Nat.add_zero] at hst
        have hk:m≠0:=by omega
        have hw:IntKind.i64.wrap (m:Int)=m:=by rw [IntKind.wrap_i64];omega
        have hneg:¬ ((m:Int)<0):=by omega
        have hns:¬ (m*i.size=0):=Nat.mul_ne_zero hk (by omega)
        have hne:E.size≠0:=by omega
        have h48i:¬ (281474976710656<(m:Int)*(i.bytes:Int)):=by
          rw [←Int.natCast_mul]
          omega
        simp only [List.append_assoc] at hst
        have hzf':(Builtin.zeroCells z.cells m).toList=E.flat (List.replicate m z0):=hzf
        simp [Builtin.append_,run_underlying ht,run_underlying htn,sizeOf,typeInfo,zeroValue,hi,hz,asInt,asIntOf,hw,hneg,hk,hne,h48i,hroom,hsize,hadd,hzf',hst]
        intro h
        exact absurd h (by rw [←hsize];exact hns)
      · have hsz:((cur.toList.take (off+xs.length*E.size)++E.flat (List.replicate m z0)++cur.toList.drop (off+xs.length*E.size+(E.flat (List.replicate m z0)).length)).toArray).size=cur.size:=by
          simp only [List.size_toArray,List.length_append,List.length_take,List.length_drop,Array.length_toList]
          omega
        rw [hsz];exact hf0
      · simp only [List.size_toArray,List.length_append,List.length_take,List.length_drop,Array.length_toList]
        omega
      · have hxl:(cur.toList.take (off+xs.length*E.size)).drop off=E.flat xs:=by
          rw [List.drop_take,←h5]
          congr 1
          omega
        have ht1:(cur.toList.take (off+xs.length*E.size)).length=off+xs.length*E.size:=by
          have hx:=Nat.mul_le_mul_right E.size h2
          have hy:cur.toList.length=cur.size:=by simp
          rw [List.length_take];omega
        rw [List.append_assoc,List.drop_append_of_le_length (by rw [ht1];omega),hxl,←List.append_assoc,←E.flat_append]
        rw [List.take_append_of_le_length (by rw [E.flat_length];exact Nat.le_refl _),List.take_of_length_le (by rw [E.flat_length];exact Nat.le_refl _)]
    · have holds:∀ j u,(E.flat xs)[j]? = some u→w.cell? ((⟨g,off,none⟩:Addr).add j)=some u:=(s.rowCells _ _ _ rfl).2 _ rfl
      have hfo:=run_firstCells_some (P:=P) w.drew i.size xs.length ⟨g,off,none⟩ xs.length cap (E.flat xs) (by rw [E.flat_length,hsize]) (by simpa using holds)
      exact grow _ cap (E.flat xs) rfl (by omega) hfo s'.drop
end
section
variable {P:Program} {w0:World} {n:Nat} {f:Fr} {l l':List HProp} {d:Option Tmp} {ty:TypeId} {pos:String} {aft:Array Edge} {g:Option (Nat×Bool)} {x y:Operand} {v u:Value} {T T':TypeId} {α:Type} {E:Enc α} {ao:Option Addr} {xs:List α}
theorem os_appendn {e by_:Nat} {zv sv:Value} {as:Array TypeId} {kn kq:IntKind} {i:Int} (m:Nat) (z:α) (has:as=#[T,T']) (hT:sliceB P T=some (e,E.size,by_)) (htn:P.underlying T'=some (.int kn)) (hzv:(P.info? e).bind (·.zero)=some zv) (hz:zv.cells=(E.cells z).toArray) (hx:ev f x=sv) (hy:ev f y=.int kq i) (hi:i=(m:Int)) (h0:0<m)
    (hb:(xs.length+m)*by_≤140737488355328) (hml:xs.length+m≤maxLen) :
    OS P w0 n ⟨d,.call ⟨.builtin .append,#[x,y],as⟩,ty,pos,aft,g⟩ f (Row e E sv xs::l) (fun v l'=>∃ ao k,v=.slice ao (xs++List.replicate m z).length k∧l'=Row e E v (xs++List.replicate m z)::l):=fun a w r s=>by
  subst has hi
  obtain ⟨hu,q,hq,hs,hb'⟩:=sliceB_spec hT
  have hzz:q.zero=some zv:=by simpa [hq] using hzv
  obtain ⟨v',w',hrun,s'⟩:=run_append_row_zeros (P:=P) (ty:=ty) (kq:=kq) hu htn hq hzz hs hb' hz s m h0 hb hml
  obtain ⟨ao,k,hv,_⟩:=s'.rowSlice
  simp [execOp,resolve,invoke,builtin,r.eval,hx,hy,hrun,gives]
  exact ⟨_,⟨⟨ao,k,by simpa using hv⟩,rfl⟩,s'⟩
theorem mod_u8 (X:UInt8):X.toNat % 256=X.toNat:=Nat.mod_eq_of_lt X.toNat_lt
theorem op_shl8 {m:Nat} {k':IntKind} (A:Nat) (hx:ev f x=.int .u8 (A:Int)) (hy:ev f y=.int k' (m:Int)) (hm:m≤8):OP P w0 n ⟨d,.binOp .shl T x y T',ty,pos,aft,g⟩ f l (.int .u8 ((UInt8.ofNat (A*2 ^ m)).toNat:Int)):=fun M a w r s=>by
  have h1:¬ ((m:Int)<0):=by omega
  have h2:min m IntKind.u8.bits=m:=Nat.min_eq_left hm
  have h3:IntKind.u8.wrap ((A:Int)*2 ^ m)=((UInt8.ofNat (A*2 ^ m)).toNat:Int):=by
    rw [←wrap_u8_nat];simp
  simp [execOp,r.eval,hx,hy,eqGuard_int,binOp,Op.shift,h1,h2,h3]
theorem op_or8 (X Y:UInt8) (hx:ev f x=.int .u8 (X.toNat:Int)) (hy:ev f y=.int .u8 (Y.toNat:Int)):OP P w0 n ⟨d,.binOp .or T x y T',ty,pos,aft,g⟩ f l (.int .u8 ((X ||| Y).toNat:Int)):=fun M a w r s=>by
  simp only [execOp,r.eval,hx,hy,binOp]
  simp [eqGuard_int,Op.intBits]
  show IntKind.u8.wrap ((X.toNat % 256 ||| Y.toNat % 256:Nat):Int)=_
  rw [mod_u8,mod_u8,wrap_u8_nat]
  congr 1
  rw [←UInt8.toNat_or,UInt8.ofNat_toNat]
theorem op_and8 (X Y:UInt8) (hx:ev f x=.int .u8 (X.toNat:Int)) (hy:ev f y=.int .u8 (Y.toNat:Int)):OP P w0 n ⟨d,.binOp .and T x y T',ty,pos,aft,g⟩ f l (.int .u8 ((X &&& Y).toNat:Int)):=fun M a w r s=>by
  simp only [execOp,r.eval,hx,hy,binOp]
  simp [eqGuard_int,Op.intBits]
  show IntKind.u8.wrap ((X.toNat % 256 &&& Y.toNat % 256:Nat):Int)=_
  rw [mod_u8,mod_u8,wrap_u8_nat]
  congr 1
  rw [←UInt8.toNat_and,UInt8.ofNat_toNat]
theorem op_add8 (X Y:UInt8) (hx:ev f x=.int .u8 (X.toNat:Int)) (hy:ev f y=.int .u8 (Y.toNat:Int)):OP P w0 n ⟨d,.binOp .add T x y T',ty,pos,aft,g⟩ f l (.int .u8 ((X+Y).toNat:Int)):=by
  have:=op_addw (P:=P) (w0:=w0) (n:=n) (l:=l) (d:=d) (ty:=ty) (pos:=pos) (aft:=aft) (g:=g) (T:=T) (T':=T') hx hy
  rw [←Int.natCast_add,wrap_u8_nat,UInt8.ofNat_add,UInt8.ofNat_toNat,UInt8.ofNat_toNat] at this
  exact this
theorem op_and1 {A:Nat} (hx:ev f x=.int .u8 (A:Int)) (hA:A<256) (hy:ev f y=.int .u8 1):OP P w0 n ⟨d,.binOp .and T x y T',ty,pos,aft,g⟩ f l (.int .u8 ((A % 2:Nat):Int)):=by
  have h:=op_and8 (P:=P) (w0:=w0) (n:=n) (l:=l) (d:=d) (ty:=ty) (pos:=pos) (aft:=aft) (g:=g) (T:=T) (T':=T') (x:=x) (y:=y) (f:=f) (UInt8.ofNat A) 1 (by rw [hx];congr 2;simp only [UInt8.toNat_ofNat'];omega) hy
  have e:(UInt8.ofNat A &&& 1).toNat=A % 2:=by
    rw [UInt8.toNat_and]
    show (UInt8.ofNat A).toNat &&& 1=A % 2
    rw [Nat.and_one_is_mod]
    simp only [UInt8.toNat_ofNat']
    omega
  rw [e] at h
  exact h
/-- a quotient of whole numbers that are not negative -/
theorem op_quonk {A C:Nat} (hx:ev f x=.int .i64 (A:Int)) (hy:ev f y=.int .i64 (C:Int)) (h:0<C) (hA:A<9223372036854775808):OP P w0 n ⟨d,.binOp .quo T x y T',ty,pos,aft,g⟩ f l (.int .i64 ((A / C:Nat):Int)):=by
  have h2:A / C≤A:=Nat.div_le_self _ _
  have:=op_quo (P:=P) (w0:=w0) (n:=n) (l:=l) (d:=d) (ty:=ty) (pos:=pos) (aft:=aft) (g:=g) (T:=T) (T':=T') hx hy (by omega) (by omega) (by omega)
  exact this
end
theorem addr_zero (a:Addr):a.add 0=a:=by
  unfold Addr.add;split<;>simp_all
section
variable {P:Program} {w0 w:World} {n:Nat} {f:Fr} {l l':List HProp} {d:Option Tmp} {ty:TypeId} {pos:String} {aft:Array Edge} {g:Option (Nat×Bool)} {x y z:Operand} {v u:Value} {T T':TypeId} {α:Type} {E:Enc α} {ao:Option Addr} {xs:List α} {e sz by_ m c:Nat} {k k':IntKind} {i i':Int}
theorem op_slice_to (j:Nat) (hT:sliceB P T=some (e,sz,by_)) (hx:ev f x=.slice ao m c) (hy:ev f y=.int k i) (hj:i=(j:Int)) (h:j≤c):OP P w0 n ⟨d,.slice T x none (some y) none,ty,pos,aft,g⟩ f l (.slice ao j c):=fun M a w r s=>by
  subst hj
  obtain ⟨hu,q,hq,hs,hb'⟩:=sliceB_spec hT
  have h':(j:Int)≤(c:Int):=by omega
  have e1:(if c=0 then ao else ao.map (·.add 0))=ao:=by
    split
    · rfl
    · cases ao<;>simp [addr_zero]
  simp [execOp,r.eval,hx,hy,Instr.sliceAt,Instr.slice,Instr.sliceBounds,Instr.sliceBound,asIntOf,run_underlying hu,sizeOf,typeInfo,hq,h,e1]
theorem op_slice_from (j:Nat) (hT:sliceB P T=some (e,sz,by_)) (hx:ev f x=.slice ao m c) (hy:ev f y=.int k i) (hj:i=(j:Int)) (h:j≤m):OP P w0 n ⟨d,.slice T x (some y) none none,ty,pos,aft,g⟩ f l (.slice (if c=j then ao else oad ao (j*sz)) (m-j) (c-j)):=fun M a w r s=>by
  subst hj
  obtain ⟨hu,q,hq,hs,hb'⟩:=sliceB_spec hT
  have h':(j:Int)≤(m:Int):=by omega
  simp [execOp,r.eval,hx,hy,Instr.sliceAt,Instr.slice,Instr.sliceBounds,Instr.sliceBound,asIntOf,run_underlying hu,sizeOf,typeInfo,hq,hs,h,oad]
theorem Sat.rowTake (j:Nat) (hm:m=xs.length) (hj:j≤m) (s:Sat w0 w (Row e E (.slice ao m c) xs::l)):Sat w0 w (Row e E (.slice ao (xs.take j).length c) (xs.take j)::l):=by
  subst hm
  rcases s.rowOpen with ⟨hv,rfl,s'⟩ | ⟨g,off,cap,cur,fr,hv,h2,h3,h4,h5,hf,s'⟩
  · injection hv with h1 _ h3
    subst h1 h3
    simpa using s'.rowNil (E:=E) (e:=e)
  · injection hv with h1 _ h6
    subst h1 h6
    have hl:(xs.take j).length=j:=by rw [List.length_take];omega
    refine s'.rowMk hf (by omega) h3 h4 ?_
    have hx:E.flat xs=E.flat (xs.take j)++E.flat (xs.drop j):=by rw [←E.flat_append,List.take_append_drop]
    have h7:(E.flat (xs.take j)).length=(xs.take j).length*E.size:=E.flat_length _
    have h8:(xs.take j).length*E.size≤xs.length*E.size:=Nat.mul_le_mul_right _ (by omega)
    have:=congrArg (List.take ((xs.take j).length*E.size)) h5
    rw [List.take_take,Nat.min_eq_left h8,hx,←h7,List.take_left,h7] at this
    exact this
/-- v[:j] of an owned slice,which is owned on -/
theorem os_slicerow_to (j:Nat) (hT:sliceB P T=some (e,E.size,by_)) (hx:ev f x=.slice ao m c) (hy:ev f y=.int k i) (hj:i=(j:Int)) (hm:m=xs.length) (h:j≤m):OS P w0 n ⟨d,.slice T x none (some y) none,ty,pos,aft,g⟩ f (Row e E (.slice ao m c) xs::l) (fun v l'=>v=.slice ao (xs.take j).length c∧l'=Row e E (.slice ao (xs.take j).length c) (xs.take j)::l):=fun a w r s=>by
  have hl:(xs.take j).length=j:=by rw [List.length_take];omega
  obtain ⟨a1,c1,hv1,hc1⟩:=s.rowSlice
  injection hv1 with _ _ hcc
  subst hcc
  refine ((os_q (op_slice_to (P:=P) (w0:=w0) (n:=n) (l:=Row e E (.slice ao m c) xs::l) (d:=d) (ty:=ty) (pos:=pos) (aft:=aft) (g:=g) j hT hx hy hj (by omega))) a w r s).mono ?_
  rintro v w' ⟨l',⟨rfl,rfl⟩,s'⟩
  exact ⟨_,⟨by rw [hl],rfl⟩,s'.rowTake j hm h⟩
end
end Go.SL
