import Derived.Test.YtfklhdamklofeaaGreatProg
import Derived.Test.YtfklhdamklofeaaGreatK3
set_option linter.unusedVariables false
set_option linter.unusedSimpArgs false
set_option linter.unusedSectionVars false
set_option maxHeartbeats 1000000
set_option maxRecDepth 100000
namespace Go.SL
def beats (ns:List Node) (S:Nat→Int) (i k:Nat):Bool:=decide (S k<S i) || (decide (S i=S k) && Op.bytesLess (rtA ns k).1 (rtA ns i).1)
def aheadN (ns:List Node) (S:Nat→Int) (i:Nat) (k:Int):Bool:=decide (k<0) || beats ns S i k.toNat
def bestF (ns:List Node) (S:Nat→Int) (l:List Nat):Int:=l.foldl (fun b k=>if aheadN ns S k b=true then (k:Int) else b) (-1)
theorem bestF_snoc (ns:List Node) (S:Nat→Int) (l:List Nat) (k:Nat):bestF ns S (l++[k])=if aheadN ns S k (bestF ns S l)=true then (k:Int) else bestF ns S l:=by
  unfold bestF
  rw [List.foldl_append]
  rfl
theorem beats_asymm {ns:List Node} {S:Nat→Int} {i k:Nat} (h:beats ns S i k=true) (h2:beats ns S k i=true):False:=by
  unfold beats at h h2
  simp only [Bool.or_eq_true,Bool.and_eq_true,decide_eq_true_eq] at h h2
  rcases h with h | ⟨h,h3⟩
  · rcases h2 with h2 | ⟨h2,_⟩<;>omega
  · rcases h2 with h2 | ⟨h2,h4⟩
    · omega
    · rw [bl_asymm h3] at h4;cases h4
theorem beats_trans {ns:List Node} {S:Nat→Int} {i j k:Nat} (h:beats ns S i j=true) (h2:beats ns S j k=true):beats ns S i k=true:=by
  unfold beats at h h2 ⊢
  simp only [Bool.or_eq_true,Bool.and_eq_true,decide_eq_true_eq] at h h2 ⊢
  rcases h with h | ⟨h,h3⟩
  · rcases h2 with h2 | ⟨h2,_⟩<;>exact .inl (by omega)
  · rcases h2 with h2 | ⟨h2,h4⟩
    · exact .inl (by omega)
    · exact .inr ⟨by omega,bl_trans h4 h3⟩
theorem rtA_inj {ns:List Node} (hd:(ns.map (·.root)).Nodup) {i k:Nat} (hi:i<ns.length) (hk:k<ns.length) (h:rtA ns i=rtA ns k):i=k:=by
  rw [rtA_get hi,rtA_get hk] at h
  exact nodup_get hd (x:=ns[i].root) (by rw [List.getElem?_map,List.getElem?_eq_getElem hi];rfl) (by rw [List.getElem?_map,List.getElem?_eq_getElem hk,h];rfl)
theorem beats_total {ns:List Node} (hd:(ns.map (·.root)).Nodup) {S:Nat→Int} {i k:Nat} (hi:i<ns.length) (hk:k<ns.length) (hne:i≠k) (h:beats ns S i k=false):beats ns S k i=true:=by
  unfold beats at h ⊢
  simp only [Bool.or_eq_false_iff,Bool.and_eq_false_iff,decide_eq_false_iff_not] at h
  simp only [Bool.or_eq_true,Bool.and_eq_true,decide_eq_true_eq]
  obtain ⟨h1,h2⟩:=h
  by_cases e:S i=S k
  · right
    refine ⟨e.symm,?_⟩
    rcases h2 with h2 | h2
    · exact absurd e h2
    · cases h3:Op.bytesLess (rtA ns i).1 (rtA ns k).1 with
      | true=>rfl
      | false=>exact absurd (rtA_inj hd hi hk (Subtype.ext (bl_tri (by rw [(rtA ns i).2,(rtA ns k).2]) h3 h2))) hne
  · left;omega
def IsBest (ns:List Node) (S:Nat→Int) (l:List Nat) (b:Int):Prop:=(l=[]∧b=-1)∨∃ k:Nat,b=k∧k∈l∧∀ j∈l,j≠k→beats ns S k j=true
theorem bestF_is {ns:List Node} (hd:(ns.map (·.root)).Nodup) (S:Nat→Int) (l:List Nat) (hl:∀ k∈l,k<ns.length):IsBest ns S l (bestF ns S l):=by
  have key:∀ m,m≤l.length→IsBest ns S (l.take m) (bestF ns S (l.take m)):=by
    intro m
    induction m with
    | zero=>intro _;exact .inl ⟨List.take_zero,rfl⟩
    | succ m ih =>
      intro hm
      have ih:=ih (by omega)
      have hx:=hl l[m] (List.getElem_mem _)
      rw [List.take_succ_eq_append_getElem (by omega),bestF_snoc]
      rcases ih with ⟨e,h⟩ | ⟨k,e,h1,h2⟩
      · rw [h]
        have:aheadN ns S l[m] (-1)=true:=by simp [aheadN]
        rw [if_pos this,e]
        exact .inr ⟨l[m],rfl,List.mem_append_right _ List.mem_cons_self,fun j hj hne=>by simp at hj;exact absurd hj hne⟩
      · rw [e]
        have hk:=hl k (List.mem_of_mem_take h1)
        have ea:aheadN ns S l[m] (k:Int)=beats ns S l[m] k:=by unfold aheadN;rw [decide_eq_false (by omega),Bool.false_or,Int.toNat_natCast]
        rw [ea]
        by_cases hb:beats ns S l[m] k=true
        · rw [if_pos hb]
          refine .inr ⟨l[m],rfl,List.mem_append_right _ List.mem_cons_self,fun j hj hne=>?_⟩
          rcases List.mem_append.1 hj with hj | hj
          · by_cases ejk:j=k
            · subst ejk;exact hb
            · exact beats_trans hb (h2 j hj ejk)
          · simp at hj;exact absurd hj hne
        · rw [if_neg hb]
          refine .inr ⟨k,rfl,List.mem_append_left _ h1,fun j hj hne=>?_⟩
          rcases List.mem_append.1 hj with hj | hj
          · exact h2 j hj hne
          · simp at hj
            subst hj
            exact beats_total hd hx hk hne (by simpa using hb)
  have:=key l.length (Nat.le_refl _)
  rwa [List.take_length] at this
theorem IsBest.eq {ns:List Node} {S:Nat→Int} {l l':List Nat} {b b':Int} (h:IsBest ns S l b) (h':IsBest ns S l' b') (hm:∀ k,k∈l↔k∈l'):b=b':=by
  rcases h with ⟨e,h⟩ | ⟨k,e,h1,h2⟩
  · rcases h' with ⟨e',h'⟩ | ⟨k',e',h1',h2'⟩
    · rw [h,h']
    · subst e;exact absurd ((hm k').2 h1') (by simp)
  · rcases h' with ⟨e',h'⟩ | ⟨k',e',h1',h2'⟩
    · subst e';exact absurd ((hm k).1 h1) (by simp)
    · by_cases hk:k=k'
      · rw [e,e',hk]
      · exact (beats_asymm (h2 k' ((hm k').2 h1') (fun h=>hk h.symm)) (h2' k ((hm k).1 h1) hk)).elim
def bestN (ns:List Node) (S:Nat→Int) (n p:Nat):Int:=bestF ns S (kidsI ns n p)
theorem bestN_is {ns:List Node} (hd:(ns.map (·.root)).Nodup) (S:Nat→Int) {n:Nat} (hn:n≤ns.length) (p:Nat):IsBest ns S (kidsI ns n p) (bestN ns S n p):=bestF_is hd S _ fun k hk=>by have:=(mem_kidsI.1 hk).1;omega
theorem bestN_rg {ns:List Node} (hd:(ns.map (·.root)).Nodup) (hp:Par ns) (S:Nat→Int) {n:Nat} (hn:n≤ns.length) (p:Nat):bestN ns S n p=-1∨∃ k:Nat,bestN ns S n p=k∧p<k∧k<n∧prA ns k=p:=by
  rcases bestN_is hd S hn p with ⟨_,h⟩ | ⟨k,e,h1,_⟩
  · exact .inl h
  · exact .inr ⟨k,e,(kidsI_gt hp hn h1).1,(kidsI_gt hp hn h1).2,(mem_kidsI.1 h1).2⟩
theorem beats_congr {ns ns':List Node} {S S':Nat→Int} {i k:Nat} (h1:S i=S' i) (h2:S k=S' k) (h3:rtA ns i=rtA ns' i) (h4:rtA ns k=rtA ns' k):beats ns S i k=beats ns' S' i k:=by unfold beats;rw [h1,h2,h3,h4]
theorem bestF_congr {ns ns':List Node} {S S':Nat→Int} {l:List Nat} (h:∀ k∈l,S k=S' k∧rtA ns k=rtA ns' k):bestF ns S l=bestF ns' S' l:=by
  have key:∀ m,m≤l.length→bestF ns S (l.take m)=bestF ns' S' (l.take m)∧(bestF ns S (l.take m)=-1∨∃ k∈l,bestF ns S (l.take m)=(k:Nat)):=by
    intro m
    induction m with
    | zero=>intro _;exact ⟨rfl,.inl rfl⟩
    | succ m ih =>
      intro hm
      obtain ⟨e1,e2⟩:=ih (by omega)
      have hx:=List.getElem_mem (show m<l.length by omega)
      rw [List.take_succ_eq_append_getElem (by omega),bestF_snoc,bestF_snoc,←e1]
      have e3:aheadN ns S l[m] (bestF ns S (l.take m))=aheadN ns' S' l[m] (bestF ns S (l.take m)):=by
        rcases e2 with e2 | ⟨k,hk,e2⟩
        · rw [e2];simp [aheadN]
        · rw [e2]
          unfold aheadN
          rw [Int.toNat_natCast,beats_congr (h _ hx).1 (h k hk).1 (h _ hx).2 (h k hk).2]
      rw [←e3]
      refine ⟨rfl,?_⟩
      split
      · exact .inr ⟨_,hx,rfl⟩
      · exact e2
  have:=(key l.length (Nat.le_refl _)).1
  rwa [List.take_length] at this
theorem kidsI_app {ns xs:List Node} {n p:Nat} (hn:n≤ns.length):kidsI (ns++xs) n p=kidsI ns n p:=by
  unfold kidsI
  apply List.filter_congr
  intro k hk
  have:k<n:=by simpa using hk
  rw [prA_app (by omega)]
theorem bestN_app {ns xs:List Node} {S:Nat→Int} {n p:Nat} (hn:n≤ns.length):bestN (ns++xs) S n p=bestN ns S n p:=by
  unfold bestN
  rw [kidsI_app hn]
  exact bestF_congr fun k hk=>⟨rfl,rtA_app (by have:=(mem_kidsI.1 hk).1;omega)⟩
/-- the kids among the last places,the last one first -/
def kidsD (ns:List Node) (n p:Nat):Nat→List Nat
  | 0=>[]
  | m+1=>kidsD ns n p m++(if prA ns (n-m-1)=(p:Int) then [n-m-1] else [])
theorem mem_kidsD {ns:List Node} {n p:Nat}:∀ {m k:Nat},m≤n→(k∈kidsD ns n p m↔n-m≤k∧k<n∧prA ns k=(p:Int))
  | 0,k,_=>by simp [kidsD];omega
  | m+1,k,hm=>by
    rw [kidsD,List.mem_append,mem_kidsD (m:=m) (by omega)]
    by_cases h:prA ns (n-m-1)=(p:Int)
    · rw [if_pos h,List.mem_singleton]
      constructor
      · rintro (⟨h1,h2,h3⟩ | rfl)
        · exact ⟨by omega,h2,h3⟩
        · exact ⟨by omega,by omega,h⟩
      · rintro ⟨h1,h2,h3⟩
        by_cases e:k=n-m-1
        · exact .inr e
        · exact .inl ⟨by omega,h2,h3⟩
    · rw [if_neg h]
      simp only [List.not_mem_nil,or_false]
      constructor
      · rintro ⟨h1,h2,h3⟩;exact ⟨by omega,h2,h3⟩
      · rintro ⟨h1,h2,h3⟩
        refine ⟨?_,h2,h3⟩
        by_cases e:k=n-m-1
        · subst e;exact absurd h3 h
        · omega
def bestD (ns:List Node) (S:Nat→Int) (n m p:Nat):Int:=bestF ns S (kidsD ns n p m)
theorem bestD_zero (ns:List Node) (S:Nat→Int) (n p:Nat):bestD ns S n 0 p=-1:=rfl
theorem bestD_succ (ns:List Node) (S:Nat→Int) (n m p:Nat):bestD ns S n (m+1) p=if prA ns (n-m-1)=(p:Int)∧aheadN ns S (n-m-1) (bestD ns S n m p)=true then ((n-m-1:Nat):Int) else bestD ns S n m p:=by
  unfold bestD
  rw [kidsD]
  by_cases h:prA ns (n-m-1)=(p:Int)
  · rw [if_pos h,bestF_snoc]
    by_cases h2:aheadN ns S (n-m-1) (bestF ns S (kidsD ns n p m))=true
    · rw [if_pos h2,if_pos ⟨h,h2⟩]
    · rw [if_neg h2,if_neg (fun q=>h2 q.2)]
  · rw [if_neg h,List.append_nil,if_neg (fun q=>h q.1)]
theorem bestD_all {ns:List Node} (hd:(ns.map (·.root)).Nodup) (hp:Par ns) (S:Nat→Int) {n:Nat} (hn:n≤ns.length) (p:Nat):bestD ns S n (n-1) p=bestN ns S n p:=by
  refine (bestF_is hd S _ fun k hk=>?_).eq (bestN_is hd S hn p) fun k=>?_
  · have:=(mem_kidsD (by omega)).1 hk;omega
  · rw [mem_kidsD (by omega),mem_kidsI]
    constructor
    · rintro ⟨_,h2,h3⟩;exact ⟨h2,h3⟩
    · rintro ⟨h2,h3⟩
      refine ⟨?_,h2,h3⟩
      rcases hp.rg (show k<ns.length by omega) with ⟨h4,h5⟩ | ⟨j,h4,h5⟩<;>omega
theorem bestD_rg {ns:List Node} (hd:(ns.map (·.root)).Nodup) (S:Nat→Int) {n m:Nat} (hm:m≤n) (hn:n≤ns.length) (p:Nat):bestD ns S n m p=-1∨∃ k:Nat,bestD ns S n m p=k∧n-m≤k∧k<n:=by
  rcases bestF_is hd S (kidsD ns n p m) (fun k hk=>by have:=(mem_kidsD hm).1 hk;omega) with ⟨_,h⟩ | ⟨k,e,h1,_⟩
  · exact .inl h
  · have:=(mem_kidsD hm).1 h1
    exact .inr ⟨k,e,this.1,this.2.1⟩
def leafF (ns:List Node) (S:Nat→Int) (n:Nat):Nat→Nat→Nat
  | 0,i=>i
  | k+1,i=>if bestN ns S n i<0 then i else leafF ns S n k (bestN ns S n i).toNat
def leafN (ns:List Node) (S:Nat→Int) (n i:Nat):Nat:=leafF ns S n n i
section
variable {ns:List Node} {S:Nat→Int} {n:Nat}
theorem leafF_fuel (hd:(ns.map (·.root)).Nodup) (hp:Par ns) (hn:n≤ns.length):∀ k k' i,n-i≤k→n-i≤k'→leafF ns S n k i=leafF ns S n k' i:=by
  intro k
  induction k with
  | zero =>
    intro k' i h1 h2
    cases k' with
    | zero=>rfl
    | succ k' =>
      show i=if bestN ns S n i<0 then i else _
      rcases bestN_rg hd hp S hn i with h | ⟨q,h,h3,h4,_⟩
      · rw [h];rfl
      · omega
  | succ k ih =>
    intro k' i h1 h2
    show (if bestN ns S n i<0 then i else leafF ns S n k (bestN ns S n i).toNat)=_
    rcases bestN_rg hd hp S hn i with h | ⟨q,h,h3,h4,_⟩
    · cases k' with
      | zero=>rw [h];rfl
      | succ k' =>
        show _=(if bestN ns S n i<0 then i else leafF ns S n k' (bestN ns S n i).toNat)
        rw [h];rfl
    · cases k' with
      | zero=>omega
      | succ k' =>
        show _=(if bestN ns S n i<0 then i else leafF ns S n k' (bestN ns S n i).toNat)
        rw [h,if_neg (by omega),if_neg (by omega),Int.toNat_natCast]
        exact ih k' q (by omega) (by omega)
theorem leafN_no (i:Nat) (h:bestN ns S n i<0):leafN ns S n i=i:=by
  unfold leafN
  cases n with
  | zero=>rfl
  | succ k=>exact if_pos h
theorem leafN_yes (hd:(ns.map (·.root)).Nodup) (hp:Par ns) (hn:n≤ns.length) {i k:Nat} (h:bestN ns S n i=(k:Int)):leafN ns S n i=leafN ns S n k:=by
  rcases bestN_rg hd hp S hn i with h2 | ⟨q,h2,h3,h4,_⟩
  · omega
  · have:k=q:=by omega
    subst this
    unfold leafN
    obtain ⟨m,rfl⟩:∃ m,n=m+1:=⟨n-1,by omega⟩
    conv=>lhs;unfold leafF
    rw [h,if_neg (by omega),Int.toNat_natCast]
    exact leafF_fuel hd hp hn _ _ _ (by omega) (by omega)
end
theorem leafN_app {ns xs:List Node} {S:Nat→Int} {n i:Nat} (hn:n≤ns.length):leafN (ns++xs) S n i=leafN ns S n i:=by
  unfold leafN
  have:∀ k i,leafF (ns++xs) S n k i=leafF ns S n k i:=fun k=>by
    induction k with
    | zero=>intro i;rfl
    | succ k ih =>
      intro i
      show (if bestN (ns++xs) S n i<0 then i else leafF (ns++xs) S n k (bestN (ns++xs) S n i).toNat)=(if bestN ns S n i<0 then i else leafF ns S n k (bestN ns S n i).toNat)
      rw [bestN_app hn,ih]
  exact this n i
def bestL (ns:List Node) (T:List Int):List Int:=(List.range T.length).map (bestN ns (oA T) T.length)
def leafL (ns:List Node) (T:List Int):List Int:=(List.range T.length).map fun i=>((leafN ns (oA T) T.length i:Nat):Int)
theorem bestL_app {ns xs:List Node} {T:List Int} (h:T.length≤ns.length):bestL (ns++xs) T=bestL ns T:=by
  unfold bestL
  apply List.map_congr_left
  intro a _
  exact bestN_app h
theorem leafL_app {ns xs:List Node} {T:List Int} (h:T.length≤ns.length):leafL (ns++xs) T=leafL ns T:=by
  unfold leafL
  apply List.map_congr_left
  intro a _
  rw [leafN_app h]
def stepO (ns:List Node) (o:List Int) (d:Delta):Int×List Int :=
  match idxOf ns d.root with
  | none=>(7,o)
  | some i=>if d.n≤-4611686018427387904∨4611686018427387904≤d.n then (1,o) else if oA o i+d.n<0∨4611686018427387904≤oA o i+d.n then (1,o) else (0,o.set i (oA o i+d.n))
def runO (ns:List Node):List Int→List Delta→Int×List Int
  | o,[]=>(0,o)
  | o,d::r=>if (stepO ns o d).1=0 then runO ns (stepO ns o d).2 r else ((stepO ns o d).1,o)
theorem runO_app (ns:List Node):∀ (a b:List Delta) (o:List Int),(runO ns o a).1=0→runO ns o (a++b)=runO ns (runO ns o a).2 b
  | [],b,o,_=>rfl
  | d::r,b,o,h=>by
    have e:∀ r,runO ns o (d::r)=if (stepO ns o d).1=0 then runO ns (stepO ns o d).2 r else ((stepO ns o d).1,o):=fun _=>rfl
    by_cases h1:(stepO ns o d).1=0
    · rw [e,if_pos h1] at h
      rw [List.cons_append,e,if_pos h1,e,if_pos h1]
      exact runO_app ns r b _ h
    · rw [e,if_neg h1] at h;exact absurd h h1
theorem runO_stop (ns:List Node):∀ (a b:List Delta) (o:List Int),(runO ns o a).1≠0→(runO ns o (a++b)).1=(runO ns o a).1
  | [],b,o,h=>absurd rfl h
  | d::r,b,o,h=>by
    have e:∀ r,runO ns o (d::r)=if (stepO ns o d).1=0 then runO ns (stepO ns o d).2 r else ((stepO ns o d).1,o):=fun _=>rfl
    by_cases h1:(stepO ns o d).1=0
    · rw [e,if_pos h1] at h
      rw [List.cons_append,e,if_pos h1,e,if_pos h1]
      exact runO_stop ns r b _ h
    · rw [List.cons_append,e,if_neg h1,e,if_neg h1]
theorem runO_next {ns:List Node} {o cur:List Int} {l:List Delta} {i:Nat} (hi:i<l.length) (h:runO ns o (l.take i)=(0,cur)):runO ns o (l.take (i+1))=if (stepO ns cur l[i]).1=0 then (0,(stepO ns cur l[i]).2) else ((stepO ns cur l[i]).1,cur):=by
  rw [List.take_succ_eq_append_getElem hi,runO_app ns _ _ _ (by rw [h]),h]
  show (if (stepO ns cur l[i]).1=0 then runO ns (stepO ns cur l[i]).2 [] else _)=_
  rfl
theorem runO_bad {ns:List Node} {o cur:List Int} {l:List Delta} {i:Nat} {c:Int} (hi:i<l.length) (h:runO ns o (l.take i)=(0,cur)) (hc:(stepO ns cur l[i]).1=c) (hc0:c≠0):(runO ns o l).1=c:=by
  have h1:=runO_next hi h
  rw [if_neg (by rw [hc];exact hc0),hc] at h1
  have h2:=runO_stop ns (l.take (i+1)) (l.drop (i+1)) o (by rw [h1];exact hc0)
  rw [List.take_append_drop] at h2
  rw [h2,h1]
theorem stepO_cases (ns:List Node) (o:List Int) (d:Delta):(idxOf ns d.root=none∧stepO ns o d=(7,o))∨∃ i,idxOf ns d.root=some i∧(((d.n≤-4611686018427387904∨4611686018427387904≤d.n)∧stepO ns o d=(1,o)) ∨
    (-4611686018427387904<d.n∧d.n<4611686018427387904∧(((oA o i+d.n<0∨4611686018427387904≤oA o i+d.n)∧stepO ns o d=(1,o))∨(0≤oA o i+d.n∧oA o i+d.n<4611686018427387904∧stepO ns o d=(0,o.set i (oA o i+d.n)))))):=by
  unfold stepO
  cases h:idxOf ns d.root with
  | none=>exact .inl ⟨rfl,rfl⟩
  | some i =>
    right
    refine ⟨i,rfl,?_⟩
    dsimp only
    by_cases h1:d.n≤-4611686018427387904∨4611686018427387904≤d.n
    · exact .inl ⟨h1,if_pos h1⟩
    · right
      rw [if_neg h1]
      refine ⟨by omega,by omega,?_⟩
      by_cases h2:oA o i+d.n<0∨4611686018427387904≤oA o i+d.n
      · exact .inl ⟨h2,if_pos h2⟩
      · exact .inr ⟨by omega,by omega,if_neg h2⟩
theorem stepO_len (ns:List Node) (o:List Int) (d:Delta):(stepO ns o d).2.length=o.length:=by
  rcases stepO_cases ns o d with ⟨_,e⟩ | ⟨i,_,⟨_,e⟩ | ⟨_,_,⟨_,e⟩ | ⟨_,_,e⟩⟩⟩<;>rw [e]<;>simp
theorem runO_len (ns:List Node):∀ (l:List Delta) (o:List Int),(runO ns o l).2.length=o.length
  | [],o=>rfl
  | d::r,o=>by
    show (if (stepO ns o d).1=0 then runO ns (stepO ns o d).2 r else ((stepO ns o d).1,o)).2.length=_
    split
    · rw [runO_len ns r,stepO_len]
    · rfl
/-- own weights that can be -/
def Ent (o:List Int):Prop:=∀ j,0≤oA o j∧oA o j<4611686018427387904
theorem OwnOK.ent {o:List Int} (h:OwnOK o):Ent o:=fun j=>⟨h.nn j,h.lt j⟩
theorem Ent.set {o:List Int} (h:Ent o) {i:Nat} {v:Int} (h1:0≤v) (h2:v<4611686018427387904):Ent (o.set i v):=fun j=>by
  by_cases hi:i<o.length
  · rw [oA_set hi]
    split
    · exact ⟨h1,h2⟩
    · exact h j
  · rw [List.set_eq_of_length_le (by omega)];exact h j
theorem stepO_ent {ns:List Node} {o:List Int} (h:Ent o) (d:Delta):Ent (stepO ns o d).2:=by
  rcases stepO_cases ns o d with ⟨_,e⟩ | ⟨i,_,⟨_,e⟩ | ⟨_,_,⟨_,e⟩ | ⟨h1,h2,e⟩⟩⟩<;>rw [e]
  · exact h
  · exact h
  · exact h
  · exact h.set h1 h2
theorem runO_ent {ns:List Node}:∀ (l:List Delta) {o:List Int},Ent o→Ent (runO ns o l).2
  | [],o,h=>h
  | d::r,o,h=>by
    show Ent (if (stepO ns o d).1=0 then runO ns (stepO ns o d).2 r else ((stepO ns o d).1,o)).2
    split
    · exact runO_ent r (stepO_ent h d)
    · exact h
def growO (n:Nat) (o:List Int):List Int:=o++List.replicate (n-o.length) 0
theorem growO_len {n:Nat} {o:List Int} (h:o.length≤n):(growO n o).length=n:=by unfold growO;simp;omega
/-- own weights behind deltas -/
def applyO (ns:List Node) (o:List Int) (l:List Delta):Int×List Int :=
  let o1:=growO ns.length o
  if (runO ns o1 l).1=0 then (if tot (runO ns o1 l).2<4611686018427387904 then (0,(runO ns o1 l).2) else (1,o1)) else ((runO ns o1 l).1,o1)
theorem applyO_len {ns:List Node} {o:List Int} (h:o.length≤ns.length) (l:List Delta):(applyO ns o l).2.length=ns.length:=by
  unfold applyO
  dsimp only
  split
  · split
    · rw [runO_len,growO_len h]
    · exact growO_len h
  · exact growO_len h
theorem applyO_ok {ns:List Node} {o:List Int} (h:OwnOK o) (l:List Delta):OwnOK (applyO ns o l).2:=by
  have h1:OwnOK (growO ns.length o):=h.zeros _
  unfold applyO
  dsimp only
  split
  · split
    · exact ⟨fun j=>(runO_ent l h1.ent j).1,by assumption⟩
    · exact h1
  · exact h1
def mixO (o u:List Int) (m:Nat):List Int:=o.take (o.length-m)++u.drop (o.length-m)
theorem mixO_zero {o u:List Int} (h:u.length=o.length):mixO o u 0=o:=by unfold mixO;rw [Nat.sub_zero,List.take_length,List.drop_eq_nil_of_le (by omega),List.append_nil]
theorem mixO_all {o u:List Int} (h:u.length=o.length):mixO o u o.length=u:=by unfold mixO;rw [Nat.sub_self];rfl
theorem mixO_len {o u:List Int} (h:u.length=o.length) (m:Nat):(mixO o u m).length=o.length:=by unfold mixO;simp;omega
theorem mixO_at {o u:List Int} (h:u.length=o.length) (m j:Nat):oA (mixO o u m) j=if j<o.length-m then oA o j else oA u j:=by
  unfold oA mixO
  rw [List.getD_eq_getElem?_getD,List.getD_eq_getElem?_getD,List.getD_eq_getElem?_getD]
  by_cases hj:j<o.length-m
  · rw [if_pos hj,List.getElem?_append_left (by simp;omega),List.getElem?_take_of_lt hj]
  · rw [if_neg hj,List.getElem?_append_right (by simp;omega),List.getElem?_drop]
    congr 2
    simp
    omega
theorem mixO_succ {o u:List Int} (h:u.length=o.length) {m:Nat} (hm:m<o.length):mixO o u (m+1)=(mixO o u m).set (o.length-m-1) (oA u (o.length-m-1)):=by
  apply List.ext_getElem
  · rw [mixO_len h,List.length_set,mixO_len h]
  · intro j h1 h2
    rw [←oA_get h1,←oA_get h2,mixO_at h,oA_set (by rw [mixO_len h];omega),mixO_at h]
    by_cases e:j=o.length-m-1
    · rw [if_neg (by omega),if_pos e,e]
    · rw [if_neg e]
      by_cases h3:j<o.length-(m+1)
      · rw [if_pos h3,if_pos (by omega)]
      · rw [if_neg h3,if_neg (by omega)]
theorem mixO_nn {o u:List Int} (h:u.length=o.length) (ho:∀ j,0≤oA o j) (hu:∀ j,0≤oA u j) (m j:Nat):0≤oA (mixO o u m) j:=by
  rw [mixO_at h]
  split
  · exact ho j
  · exact hu j
theorem mixO_tot {o u:List Int} (h:u.length=o.length) (ho:∀ j,0≤oA o j) (hu:∀ j,0≤oA u j) (m:Nat):tot (mixO o u m)≤tot o+tot u:=by
  unfold tot
  rw [mixO_len h,h,←sg_add]
  refine sg_le fun j _=>?_
  have:=ho j
  have:=hu j
  rw [mixO_at h]
  split<;>omega
def upL (ns:List Node) (S:Nat→Int) (n i:Nat) (k d:Int):List Int:=(List.range n).map fun a=>S a+if belI ns a (i:Int)=true∧¬ belI ns a k=true then d else 0
theorem upL_len (ns:List Node) (S:Nat→Int) (n i:Nat) (k d:Int):(upL ns S n i k d).length=n:=by simp [upL]
theorem upL_first (ns:List Node) (S:Nat→Int) (n i:Nat) (d:Int):upL ns S n i (i:Int) d=(List.range n).map S:=by
  unfold upL
  apply List.map_congr_left
  intro a _
  rw [if_neg (fun h=>h.2 h.1)]
  omega
theorem upL_last (ns:List Node) (S:Nat→Int) (n i:Nat) {k:Int} (hk:k<0) (d:Int):upL ns S n i k d=(List.range n).map fun a=>S a+if belI ns a (i:Int)=true then d else 0:=by
  unfold upL
  apply List.map_congr_left
  intro a _
  by_cases h:belI ns a (i:Int)=true
  · rw [if_pos ⟨h,by rw [belI_neg hk];simp⟩,if_pos h]
  · rw [if_neg (fun q=>h q.1),if_neg h]
theorem upL_step {ns:List Node} (hp:Par ns) {S:Nat→Int} {n i k:Nat} {d:Int} (hk:k<n) (hn:n≤ns.length) (hb:belI ns k (i:Int)=true):(upL ns S n i (k:Int) d).set k (S k+d)=upL ns S n i (prA ns k) d:=by
  apply List.ext_getElem
  · rw [List.length_set,upL_len,upL_len]
  · intro a h1 h2
    have ha:a<n:=by rw [upL_len] at h2;exact h2
    rw [List.getElem_set]
    simp only [upL,List.getElem_map,List.getElem_range]
    by_cases e:k=a
    · subst e
      rw [if_pos rfl,if_pos]
      refine ⟨hb,?_⟩
      rcases hp.rg (show k<ns.length by omega) with ⟨_,h4⟩ | ⟨j,h4,h5⟩
      · rw [h4,belI_neg (by decide)];simp
      · rw [h4,belI_lt (by omega)];simp
    · rw [if_neg e,belI_pr hp (by omega) e]
theorem upL_at {ns:List Node} {S:Nat→Int} {n i k:Nat} {d:Int} (hk:k<n):oA (upL ns S n i (k:Int) d) k=S k:=by
  unfold upL
  rw [oA_map hk,if_neg (fun h=>h.2 belI_eq)]
  omega
theorem belI_step {ns:List Node} (hp:Par ns) {i k:Nat} (hk:k<ns.length) (hi:i<ns.length) (hb:belI ns k (i:Int)=true):prA ns k=-1∨∃ j:Nat,prA ns k=j∧j<k∧belI ns j (i:Int)=true:=by
  rcases hp.rg hk with ⟨_,h⟩ | ⟨j,h,h2⟩
  · exact .inl h
  · refine .inr ⟨j,h,h2,belI_trans hp hk hi ?_ hb⟩
    rw [belI_pr hp hk (by omega),h,belI_eq]
theorem set_get {cur:List Int} {j:Nat} {v:Int} (h:j<(cur.set j v).length):(cur.set j v)[j]=v:=by rw [List.getElem_set_self]
theorem tab_start {n:Nat} {o:List Int} (h:o.length=n) (g:Nat→Int):tab n (fun j=>if j<0 then g j else oA o j)=o:=by
  subst h
  exact (tab_congr fun j _=>if_neg (by omega)).trans (tab_self o)
theorem sg_mono {f:Nat→Int} {m n:Nat} (h:m≤n) (hf:∀ j,j<n→0≤f j):sg f m≤sg f n:=by
  induction n with
  | zero=>rw [show m=0 by omega];exact Int.le_refl _
  | succ n ih =>
    by_cases e:m=n+1
    · rw [e];exact Int.le_refl _
    · have h1:=ih (by omega) fun j hj=>hf j (by omega)
      have h2:=hf n (by omega)
      rw [sg_succ]
      omega
def nextO (ns:List Node) (o:List Int) (l:List Delta):Int:=if (runO ns o l).1=0 then (if tot (runO ns o l).2<4611686018427387904 then 0 else 1) else (runO ns o l).1
theorem nextO_bad {ns:List Node} {o:List Int} {l:List Delta} {c:Int} (h:(runO ns o l).1=c) (hc:c≠0):nextO ns o l=c:=by unfold nextO;rw [if_neg (by rw [h];exact hc),h]
theorem nextO_much {ns:List Node} {o cur:List Int} {l:List Delta} (h:runO ns o l=(0,cur)) (ht:¬ tot cur<4611686018427387904):nextO ns o l=1:=by unfold nextO;rw [h,if_pos rfl,if_neg ht]
theorem nextO_ok {ns:List Node} {o cur:List Int} {l:List Delta} (h:runO ns o l=(0,cur)) (ht:tot cur<4611686018427387904):nextO ns o l=0:=by unfold nextO;rw [h,if_pos rfl,if_pos ht]
theorem nextO_zero {ns:List Node} {o:List Int} {l:List Delta} (h:nextO ns o l=0):(runO ns o l).1=0∧tot (runO ns o l).2<4611686018427387904:=by
  unfold nextO at h
  by_cases h1:(runO ns o l).1=0
  · rw [if_pos h1] at h
    refine ⟨h1,?_⟩
    by_cases h2:tot (runO ns o l).2<4611686018427387904
    · exact h2
    · rw [if_neg h2] at h;omega
  · rw [if_neg h1] at h;exact absurd h h1
theorem applyO_eq (ns:List Node) (o:List Int) (l:List Delta):applyO ns o l=if nextO ns (growO ns.length o) l=0 then (0,(runO ns (growO ns.length o) l).2) else (nextO ns (growO ns.length o) l,growO ns.length o):=by
  by_cases h:nextO ns (growO ns.length o) l=0
  · obtain ⟨h1,h2⟩:=nextO_zero h
    rw [if_pos h]
    unfold applyO
    dsimp only
    rw [if_pos h1,if_pos h2]
  · rw [if_neg h]
    unfold nextO at h ⊢
    unfold applyO
    dsimp only
    by_cases h1:(runO ns (growO ns.length o) l).1=0
    · rw [if_pos h1] at h ⊢
      rw [if_pos h1]
      by_cases h2:tot (runO ns (growO ns.length o) l).2<4611686018427387904
      · rw [if_pos h2] at h;exact absurd rfl h
      · rw [if_neg h2,if_neg h2]
    · rw [if_neg h1,if_neg h1]
theorem stepO_none {ns:List Node} {cur:List Int} {d:Delta} (h:idxOf ns d.root=none):stepO ns cur d=(7,cur):=by unfold stepO;rw [h]
theorem stepO_arg {ns:List Node} {cur:List Int} {d:Delta} {i:Nat} (h:idxOf ns d.root=some i) (h2:d.n≤-4611686018427387904∨4611686018427387904≤d.n):stepO ns cur d=(1,cur):=by unfold stepO;rw [h];exact if_pos h2
theorem stepO_out {ns:List Node} {cur:List Int} {d:Delta} {i:Nat} (h:idxOf ns d.root=some i) (h2:¬ (d.n≤-4611686018427387904∨4611686018427387904≤d.n)) (h3:oA cur i+d.n<0∨4611686018427387904≤oA cur i+d.n):stepO ns cur d=(1,cur):=by unfold stepO;rw [h];dsimp only;rw [if_neg h2,if_pos h3]
theorem stepO_in {ns:List Node} {cur:List Int} {d:Delta} {i:Nat} (h:idxOf ns d.root=some i) (h2:¬ (d.n≤-4611686018427387904∨4611686018427387904≤d.n)) (h3:¬ (oA cur i+d.n<0∨4611686018427387904≤oA cur i+d.n)):stepO ns cur d=(0,cur.set i (oA cur i+d.n)):=by unfold stepO;rw [h];dsimp only;rw [if_neg h2,if_neg h3]
theorem runO_go {ns:List Node} {o cur:List Int} {l:List Delta} {i:Nat} {u:List Int} (hi:i<l.length) (h:runO ns o (l.take i)=(0,cur)) (hs:stepO ns cur l[i]=(0,u)):runO ns o (l.take (i+1))=(0,u):=by
  rw [runO_next hi h,hs,if_pos rfl]
theorem runO_fail {ns:List Node} {o cur:List Int} {l:List Delta} {i:Nat} {u:List Int} {c:Int} (hi:i<l.length) (h:runO ns o (l.take i)=(0,cur)) (hs:stepO ns cur l[i]=(c,u)) (hc:c≠0):nextO ns o l=c :=
  nextO_bad (runO_bad hi h (by rw [hs]) hc) hc
/-- sums behind one place more -/
theorem mix_sum {ns:List Node} {o u:List Int} (h:u.length=o.length) {m:Nat} (hm:m<o.length) (a:Nat):sumN ns (mixO o u (m+1)) a=sumN ns (mixO o u m) a+if belI ns a ((o.length-m-1:Nat):Int)=true then oA u (o.length-m-1)-oA o (o.length-m-1) else 0:=by
  rw [mixO_succ h hm,sumN_set (by rw [mixO_len h];omega),mixO_at h,if_pos (show o.length-m-1<o.length-m by omega)]
theorem mix_same {ns:List Node} {o u:List Int} (h:u.length=o.length) {m:Nat} (hm:m<o.length) (he:oA u (o.length-m-1)-oA o (o.length-m-1)=0):sumL ns (mixO o u (m+1))=sumL ns (mixO o u m):=by
  unfold sumL
  rw [mixO_len h,mixO_len h]
  refine List.map_congr_left fun a _=>?_
  rw [mix_sum h hm,he]
  split<;>omega
theorem mix_up {ns:List Node} {o u:List Int} (h:u.length=o.length) {m:Nat} (hm:m<o.length) {k:Int} (hk:k<0) {i:Nat} (hi:i=o.length-m-1):upL ns (sumN ns (mixO o u m)) o.length i k (oA u i-oA o i)=sumL ns (mixO o u (m+1)):=by
  subst hi
  rw [upL_last _ _ _ _ hk]
  unfold sumL
  rw [mixO_len h]
  exact List.map_congr_left fun a _=>(mix_sum h hm a).symm
theorem up_first {ns:List Node} {o u:List Int} (h:u.length=o.length) (m i:Nat) (d:Int):upL ns (sumN ns (mixO o u m)) o.length i (i:Int) d=sumL ns (mixO o u m):=by
  rw [upL_first]
  unfold sumL
  rw [mixO_len h]
/-- a number of a block's place,of those that are known -/
def ofF (t:TreeS) (n:Nat) (f:Nat→Int) (r:Root):Int:=match idxOf t.nodes r with | some i=>if i<n then f i else 0 | none=>0
def headW (ns:List Node) (o:List Int):Root:=rtA ns (leafN ns (oA (sumL ns o)) o.length 0)
def bestI (t:TreeS) (o:List Int) (r:Root):Int:=ofF t o.length (fun i=>bestN t.nodes (oA (sumL t.nodes o)) o.length i+1) r-1
def bestR (t:TreeS) (o:List Int) (r:Root):Root×Bool:=if bestI t o r<0 then (Root.zero,false) else (rtA t.nodes (bestI t o r).toNat,true)
theorem ofF_no {t:TreeS} {n:Nat} {f:Nat→Int} {r:Root} (h:t.place r<0∨(n:Int)≤t.place r):ofF t n f r=0:=by
  unfold ofF
  unfold TreeS.place at h
  cases e:idxOf t.nodes r with
  | none=>rfl
  | some i=>rw [e] at h;dsimp only at h ⊢;rw [if_neg (by omega)]
theorem ofF_yes {t:TreeS} {n:Nat} {f:Nat→Int} {r:Root} (h:¬ t.place r<0) (h2:t.place r<n):∃ i:Nat,t.place r=i∧i<n∧ofF t n f r=f i:=by
  unfold ofF
  unfold TreeS.place at h h2 ⊢
  cases e:idxOf t.nodes r with
  | none=>rw [e] at h;exact absurd (by decide) h
  | some i=>rw [e] at h2;dsimp only at h2 ⊢;exact ⟨i,rfl,by omega,by rw [if_pos (by omega)]⟩
theorem leafL_at {ns:List Node} {T:List Int} {i:Nat} (h:i<T.length):oA (leafL ns T) i=((leafN ns (oA T) T.length i:Nat):Int):=oA_map h
theorem bestL_len (ns:List Node) (T:List Int):(bestL ns T).length=T.length:=by simp [bestL]
theorem leafL_len (ns:List Node) (T:List Int):(leafL ns T).length=T.length:=by simp [leafL]
theorem sumL_grow (ns:List Node) (o:List Int) (n:Nat):sumL ns o++List.replicate (n-o.length) 0=sumL ns (growO n o):=(sumL_zeros _).symm
theorem applyO_run {ns:List Node} {o:List Int} {l:List Delta} (h:nextO ns (growO ns.length o) l=0):applyO ns o l=(0,(runO ns (growO ns.length o) l).2):=by rw [applyO_eq,if_pos h]
theorem applyO_err {ns:List Node} {o:List Int} {l:List Delta} (h:nextO ns (growO ns.length o) l≠0):applyO ns o l=(nextO ns (growO ns.length o) l,growO ns.length o):=by rw [applyO_eq,if_neg h]
/-- the place of a block that is known -/
def rplW (t:TreeS) (n:Nat) (r:Root):Int:=if (n:Int)≤t.place r then -1 else t.place r
def castL (l:List Nat):List Int:=l.map fun k:Nat=>(k:Int)
section
variable {P:Program} {w0:World} {n:Nat} {f:Fr} {o:Oper} {l l2:List HProp} {v:Value}
/-- what is left as it was may stand where it stood -/
theorem os_back (h:OS P w0 n o f l (fun u l'=>u=v∧l'=l2)) (h2:∀ w,Sat w0 w l2→Sat w0 w l):OS P w0 n o f l (fun u l'=>u=v∧l'=l):=fun a w r s=>by
  refine (h a w r s).mono ?_
  rintro u w' ⟨l',⟨rfl,rfl⟩,s'⟩
  exact ⟨l,⟨rfl,rfl⟩,h2 w' s'⟩
end
structure WAct where
  kind:Int
  root:Int
  parent:Int
  slot:Int
  n:Int
  more:Int
  deriving DecidableEq
def WAct.zero:WAct:=⟨0,0,0,0,0,0⟩
def wActC (v:WAct):List Value:=[.int .i64 v.kind]++([.int .i64 v.root]++([.int .i64 v.parent]++([.int .i64 v.slot]++([.int .i64 v.n]++([.int .i64 v.more])))))
theorem wActC_len (v:WAct):(wActC v).length=6:=by simp [wActC,rootC_len]
theorem wActC_take' (v:WAct):(wActC v).take 6=wActC v:=List.take_of_length_le (by rw [wActC_len];exact Nat.le_refl _)
theorem wActC_ta (v:WAct):((wActC v).drop 0).take 6=wActC v:=wActC_take' v
theorem wActC_one (v:WAct):∀ u∈wActC v,u.oneCell'=true:=fun u hu=>by
  simp only [wActC,List.mem_append,List.mem_singleton] at hu
  rcases hu with h | h | h | h | h | h
  · subst h;rfl
  · subst h;rfl
  · subst h;rfl
  · subst h;rfl
  · subst h;rfl
  · subst h;rfl
def encWAct:Enc WAct:=⟨wActC,6,wActC_len,wActC_one,by omega⟩
theorem wActC_d0 (v:WAct):(wActC v).drop 0=[.int .i64 v.kind]++([.int .i64 v.root]++([.int .i64 v.parent]++([.int .i64 v.slot]++([.int .i64 v.n]++([.int .i64 v.more]))))):=rfl
theorem wActC_l0 (v:WAct):(wActC v)[0]? = some (.int .i64 v.kind):=by
  have h:=wActC_d0 v
  have h2:((wActC v).drop 0)[0]? = some (.int .i64 v.kind):=by rw [h];rfl
  rwa [List.getElem?_drop] at h2
theorem wActC_a0 (v:WAct):(wActC v).toArray[0]? = some (.int .i64 v.kind):=by
  rw [List.getElem?_toArray];exact wActC_l0 v
theorem wActC_d1 (v:WAct):(wActC v).drop 1=[.int .i64 v.root]++([.int .i64 v.parent]++([.int .i64 v.slot]++([.int .i64 v.n]++([.int .i64 v.more])))):=rfl
theorem wActC_l1 (v:WAct):(wActC v)[1]? = some (.int .i64 v.root):=by
  have h:=wActC_d1 v
  have h2:((wActC v).drop 1)[0]? = some (.int .i64 v.root):=by rw [h];rfl
  rwa [List.getElem?_drop] at h2
theorem wActC_a1 (v:WAct):(wActC v).toArray[1]? = some (.int .i64 v.root):=by
  rw [List.getElem?_toArray];exact wActC_l1 v
theorem wActC_d2 (v:WAct):(wActC v).drop 2=[.int .i64 v.parent]++([.int .i64 v.slot]++([.int .i64 v.n]++([.int .i64 v.more]))):=rfl
theorem wActC_l2 (v:WAct):(wActC v)[2]? = some (.int .i64 v.parent):=by
  have h:=wActC_d2 v
  have h2:((wActC v).drop 2)[0]? = some (.int .i64 v.parent):=by rw [h];rfl
  rwa [List.getElem?_drop] at h2
theorem wActC_a2 (v:WAct):(wActC v).toArray[2]? = some (.int .i64 v.parent):=by
  rw [List.getElem?_toArray];exact wActC_l2 v
theorem wActC_d3 (v:WAct):(wActC v).drop 3=[.int .i64 v.slot]++([.int .i64 v.n]++([.int .i64 v.more])):=rfl
theorem wActC_l3 (v:WAct):(wActC v)[3]? = some (.int .i64 v.slot):=by
  have h:=wActC_d3 v
  have h2:((wActC v).drop 3)[0]? = some (.int .i64 v.slot):=by rw [h];rfl
  rwa [List.getElem?_drop] at h2
theorem wActC_a3 (v:WAct):(wActC v).toArray[3]? = some (.int .i64 v.slot):=by
  rw [List.getElem?_toArray];exact wActC_l3 v
theorem wActC_d4 (v:WAct):(wActC v).drop 4=[.int .i64 v.n]++([.int .i64 v.more]):=rfl
theorem wActC_l4 (v:WAct):(wActC v)[4]? = some (.int .i64 v.n):=by
  have h:=wActC_d4 v
  have h2:((wActC v).drop 4)[0]? = some (.int .i64 v.n):=by rw [h];rfl
  rwa [List.getElem?_drop] at h2
theorem wActC_a4 (v:WAct):(wActC v).toArray[4]? = some (.int .i64 v.n):=by
  rw [List.getElem?_toArray];exact wActC_l4 v
theorem wActC_d5 (v:WAct):(wActC v).drop 5=[.int .i64 v.more]:=rfl
theorem wActC_l5 (v:WAct):(wActC v)[5]? = some (.int .i64 v.more):=by
  have h:=wActC_d5 v
  have h2:((wActC v).drop 5)[0]? = some (.int .i64 v.more):=by rw [h];rfl
  rwa [List.getElem?_drop] at h2
theorem wActC_a5 (v:WAct):(wActC v).toArray[5]? = some (.int .i64 v.more):=by
  rw [List.getElem?_toArray];exact wActC_l5 v
structure PBlk where
  root:Int
  parent:Int
  slot:Int
  n:Int
  deriving DecidableEq
def PBlk.zero:PBlk:=⟨0,0,0,0⟩
def pBlkC (v:PBlk):List Value:=[.int .i64 v.root]++([.int .i64 v.parent]++([.int .i64 v.slot]++([.int .i64 v.n])))
theorem pBlkC_len (v:PBlk):(pBlkC v).length=4:=by simp [pBlkC,rootC_len]
theorem pBlkC_take' (v:PBlk):(pBlkC v).take 4=pBlkC v:=List.take_of_length_le (by rw [pBlkC_len];exact Nat.le_refl _)
theorem pBlkC_ta (v:PBlk):((pBlkC v).drop 0).take 4=pBlkC v:=pBlkC_take' v
theorem pBlkC_one (v:PBlk):∀ u∈pBlkC v,u.oneCell'=true:=fun u hu=>by
  simp only [pBlkC,List.mem_append,List.mem_singleton] at hu
  rcases hu with h | h | h | h
  · subst h;rfl
  · subst h;rfl
  · subst h;rfl
  · subst h;rfl
def encPBlk:Enc PBlk:=⟨pBlkC,4,pBlkC_len,pBlkC_one,by omega⟩
theorem pBlkC_d0 (v:PBlk):(pBlkC v).drop 0=[.int .i64 v.root]++([.int .i64 v.parent]++([.int .i64 v.slot]++([.int .i64 v.n]))):=rfl
theorem pBlkC_l0 (v:PBlk):(pBlkC v)[0]? = some (.int .i64 v.root):=by
  have h:=pBlkC_d0 v
  have h2:((pBlkC v).drop 0)[0]? = some (.int .i64 v.root):=by rw [h];rfl
  rwa [List.getElem?_drop] at h2
theorem pBlkC_a0 (v:PBlk):(pBlkC v).toArray[0]? = some (.int .i64 v.root):=by
  rw [List.getElem?_toArray];exact pBlkC_l0 v
theorem pBlkC_d1 (v:PBlk):(pBlkC v).drop 1=[.int .i64 v.parent]++([.int .i64 v.slot]++([.int .i64 v.n])):=rfl
theorem pBlkC_l1 (v:PBlk):(pBlkC v)[1]? = some (.int .i64 v.parent):=by
  have h:=pBlkC_d1 v
  have h2:((pBlkC v).drop 1)[0]? = some (.int .i64 v.parent):=by rw [h];rfl
  rwa [List.getElem?_drop] at h2
theorem pBlkC_a1 (v:PBlk):(pBlkC v).toArray[1]? = some (.int .i64 v.parent):=by
  rw [List.getElem?_toArray];exact pBlkC_l1 v
theorem pBlkC_d2 (v:PBlk):(pBlkC v).drop 2=[.int .i64 v.slot]++([.int .i64 v.n]):=rfl
theorem pBlkC_l2 (v:PBlk):(pBlkC v)[2]? = some (.int .i64 v.slot):=by
  have h:=pBlkC_d2 v
  have h2:((pBlkC v).drop 2)[0]? = some (.int .i64 v.slot):=by rw [h];rfl
  rwa [List.getElem?_drop] at h2
theorem pBlkC_a2 (v:PBlk):(pBlkC v).toArray[2]? = some (.int .i64 v.slot):=by
  rw [List.getElem?_toArray];exact pBlkC_l2 v
theorem pBlkC_d3 (v:PBlk):(pBlkC v).drop 3=[.int .i64 v.n]:=rfl
theorem pBlkC_l3 (v:PBlk):(pBlkC v)[3]? = some (.int .i64 v.n):=by
  have h:=pBlkC_d3 v
  have h2:((pBlkC v).drop 3)[0]? = some (.int .i64 v.n):=by rw [h];rfl
  rwa [List.getElem?_drop] at h2
theorem pBlkC_a3 (v:PBlk):(pBlkC v).toArray[3]? = some (.int .i64 v.n):=by
  rw [List.getElem?_toArray];exact pBlkC_l3 v
structure VAct where
  kind:Int
  root:Int
  parent:Int
  slot:Int
  who:Int
  deriving DecidableEq
def VAct.zero:VAct:=⟨0,0,0,0,0⟩
def vActC (v:VAct):List Value:=[.int .i64 v.kind]++([.int .i64 v.root]++([.int .i64 v.parent]++([.int .i64 v.slot]++([.int .i64 v.who]))))
theorem vActC_len (v:VAct):(vActC v).length=5:=by simp [vActC,rootC_len]
theorem vActC_take' (v:VAct):(vActC v).take 5=vActC v:=List.take_of_length_le (by rw [vActC_len];exact Nat.le_refl _)
theorem vActC_ta (v:VAct):((vActC v).drop 0).take 5=vActC v:=vActC_take' v
theorem vActC_one (v:VAct):∀ u∈vActC v,u.oneCell'=true:=fun u hu=>by
  simp only [vActC,List.mem_append,List.mem_singleton] at hu
  rcases hu with h | h | h | h | h
  · subst h;rfl
  · subst h;rfl
  · subst h;rfl
  · subst h;rfl
  · subst h;rfl
def encVAct:Enc VAct:=⟨vActC,5,vActC_len,vActC_one,by omega⟩
theorem vActC_d0 (v:VAct):(vActC v).drop 0=[.int .i64 v.kind]++([.int .i64 v.root]++([.int .i64 v.parent]++([.int .i64 v.slot]++([.int .i64 v.who])))):=rfl
theorem vActC_l0 (v:VAct):(vActC v)[0]? = some (.int .i64 v.kind):=by
  have h:=vActC_d0 v
  have h2:((vActC v).drop 0)[0]? = some (.int .i64 v.kind):=by rw [h];rfl
  rwa [List.getElem?_drop] at h2
theorem vActC_a0 (v:VAct):(vActC v).toArray[0]? = some (.int .i64 v.kind):=by
  rw [List.getElem?_toArray];exact vActC_l0 v
theorem vActC_d1 (v:VAct):(vActC v).drop 1=[.int .i64 v.root]++([.int .i64 v.parent]++([.int .i64 v.slot]++([.int .i64 v.who]))):=rfl
theorem vActC_l1 (v:VAct):(vActC v)[1]? = some (.int .i64 v.root):=by
  have h:=vActC_d1 v
  have h2:((vActC v).drop 1)[0]? = some (.int .i64 v.root):=by rw [h];rfl
  rwa [List.getElem?_drop] at h2
theorem vActC_a1 (v:VAct):(vActC v).toArray[1]? = some (.int .i64 v.root):=by
  rw [List.getElem?_toArray];exact vActC_l1 v
theorem vActC_d2 (v:VAct):(vActC v).drop 2=[.int .i64 v.parent]++([.int .i64 v.slot]++([.int .i64 v.who])):=rfl
theorem vActC_l2 (v:VAct):(vActC v)[2]? = some (.int .i64 v.parent):=by
  have h:=vActC_d2 v
  have h2:((vActC v).drop 2)[0]? = some (.int .i64 v.parent):=by rw [h];rfl
  rwa [List.getElem?_drop] at h2
theorem vActC_a2 (v:VAct):(vActC v).toArray[2]? = some (.int .i64 v.parent):=by
  rw [List.getElem?_toArray];exact vActC_l2 v
theorem vActC_d3 (v:VAct):(vActC v).drop 3=[.int .i64 v.slot]++([.int .i64 v.who]):=rfl
theorem vActC_l3 (v:VAct):(vActC v)[3]? = some (.int .i64 v.slot):=by
  have h:=vActC_d3 v
  have h2:((vActC v).drop 3)[0]? = some (.int .i64 v.slot):=by rw [h];rfl
  rwa [List.getElem?_drop] at h2
theorem vActC_a3 (v:VAct):(vActC v).toArray[3]? = some (.int .i64 v.slot):=by
  rw [List.getElem?_toArray];exact vActC_l3 v
theorem vActC_d4 (v:VAct):(vActC v).drop 4=[.int .i64 v.who]:=rfl
theorem vActC_l4 (v:VAct):(vActC v)[4]? = some (.int .i64 v.who):=by
  have h:=vActC_d4 v
  have h2:((vActC v).drop 4)[0]? = some (.int .i64 v.who):=by rw [h];rfl
  rwa [List.getElem?_drop] at h2
theorem vActC_a4 (v:VAct):(vActC v).toArray[4]? = some (.int .i64 v.who):=by
  rw [List.getElem?_toArray];exact vActC_l4 v
theorem Sat.push {w0 w:World} {A:HProp} {l:List HProp} (i:Nat) (s:Sat w0 w (A::l)):Sat w0 w (l.take i++A::l.drop i):=s.perm (by
  have h:(A::(l.take i++l.drop i)).Perm (l.take i++A::l.drop i):=List.perm_middle.symm
  rwa [List.take_append_drop] at h)
theorem bn:(∀ (p:Prop) [Decidable p],(decide p=true)=p)∧(∀ (p:Prop) [Decidable p],(decide p=false)=¬p)∧(∀ b:Bool,((!b)=true)=(b=false))∧(∀ b:Bool,((!b)=false)=(b=true))∧(∀ (p:Prop) [Decidable p],(¬¬p)=p) :=
  ⟨fun p _=>decide_eq_true_eq,fun p _=>propext decide_eq_false_iff_not,fun b=>by cases b<;>simp,fun b=>by cases b<;>simp,fun p _=>by simp⟩
section
variable {P:Program} {w0:World} {n:Nat} {Q:Exit→Act→World→Prop} {f:Fr} {l:List HProp} {ops:Array Oper} {rest:List Oper} {d:Nat} {op:Op} {ty:TypeId} {pos:String} {aft:Array Edge} {v:Value}
theorem oq (h:OP P w0 n ⟨some d,op,ty,pos,aft,none⟩ f l v) (k:OL P w0 n ops Q rest (upd f d v) l) (hd:Nat.ble (d+1) n=true:=by rfl):OL P w0 n ops Q (⟨some d,op,ty,pos,aft,none⟩::rest) f l:=ol_q (wn_none rfl) h hd k
theorem oi {R:Value→List HProp→Prop} (h:OS P w0 n ⟨some d,op,ty,pos,aft,none⟩ f l R) (k:∀ v l',R v l'→OL P w0 n ops Q rest (upd f d v) l') (hd:Nat.ble (d+1) n=true:=by rfl):OL P w0 n ops Q (⟨some d,op,ty,pos,aft,none⟩::rest) f l:=ol_i (wn_none rfl) h hd k
theorem oN {R:Value→List HProp→Prop} (h:OS P w0 n ⟨none,op,ty,pos,aft,none⟩ f l R) (k:∀ v l',R v l'→OL P w0 n ops Q rest f l'):OL P w0 n ops Q (⟨none,op,ty,pos,aft,none⟩::rest) f l:=ol_iN (wn_none rfl) h k
theorem e_q {imps:List Nat} {listed:Array Bool} {k:Nat} {M:List HProp} (i:Nat) {g:Option (Nat×Bool)} (ho:ops[i]? = some ⟨some d,op,ty,pos,aft,g⟩) (hw:Wn n ops ⟨some d,op,ty,pos,aft,g⟩ f true) (h:OP P w0 n ⟨some d,op,ty,pos,aft,g⟩ f l v)
    (t:ET P w0 n ops imps ops.size (LN0 P w0 ops Q l) l k (listed.setIfInBounds i true) (upd f d v) M) (hs:Region.noSelect ops=true:=by kernel_rfl) (hB:((Region.ready .any ops listed).contains i && Region.free .any ops listed i && !imps.contains i)=true:=by kernel_rfl) (hd:Nat.ble (d+1) n=true:=by rfl) :
    ET P w0 n ops imps ops.size (LN0 P w0 ops Q l) l (k+1) listed f M:=et_quiet i hs ho hB hw h hd t
end
section
variable {P:Program} {w0:World} {n:Nat} {Q:Exit→Act→World→Prop} {f:Fr} {l:List HProp} {ops:Array Oper} {rest:List Oper} {c:Code} {e:Exit} {o:Oper} {R:Value→List HProp→Prop}
theorem ol_pull15 {H0 H1 H2 H3 H4 H5 H6 H7 H8 H9 H10 H11 H12 H13 H14 H15:HProp} (h:OL P w0 n ops Q rest f (H15::H0::H1::H2::H3::H4::H5::H6::H7::H8::H9::H10::H11::H12::H13::H14::l)):OL P w0 n ops Q rest f (H0::H1::H2::H3::H4::H5::H6::H7::H8::H9::H10::H11::H12::H13::H14::H15::l):=ol_pull 15 h
end
class QFB (P:Program) (T i:Nat) (k:outParam Nat):Prop where h:fieldB P T i=some k
class QSC (P:Program) (T:Nat):Prop where h:scalarB P T=true
class QAG (P:Program) (T:Nat) (k:outParam Nat):Prop where h:aggB P T=some k
class QRB (P:Program) (T:Nat):Prop where h:rootB P T=true
class QHB (l:List HProp) (b:Nat) (cs:outParam (Array Value)) (t:outParam TypeId) (fr:outParam (Nat×Nat)):Prop where h:∃ i:Nat,l[i]? = some (Blk b (.cells cs t fr))
instance (priority:=high) QHB.z {l:List HProp} {b:Nat} {cs:Array Value} {t:TypeId} {fr:Nat×Nat}:QHB (Blk b (.cells cs t fr)::l) b cs t fr:=⟨0,rfl⟩
instance QHB.s {l:List HProp} {H:HProp} {b:Nat} {cs:Array Value} {t:TypeId} {fr:Nat×Nat} [q:QHB l b cs t fr]:QHB (H::l) b cs t fr:=let ⟨i,h⟩:=q.h;⟨i+1,h⟩
class QCA (cs:Array Value) (i:Nat) (v:outParam Value):Prop where h:cs[i]? = some v
class QCL (cs:Array Value) (o k:Nat) (L:outParam (List Value)):Prop where
  h:(cs.toList.drop o).take k=L
  s:o+k≤cs.size
class QAdd (a b:Nat) (c:outParam Nat):Prop where h:a+b=c
instance (priority:=low) (a b:Nat):QAdd a b (a+b):=⟨rfl⟩
instance (k:Nat):QAdd 0 k k:=⟨Nat.zero_add k⟩
instance (r:Root):QCL (rootC r).toArray 0 32 (rootC r):=⟨rootC_take' r,by simp [rootC_len]⟩
section
variable {P:Program} {w0:World} {n:Nat} {f:Fr} {l l':List HProp} {d:Option Tmp} {ty:TypeId} {pos:String} {aft:Array Edge} {g:Option (Nat×Bool)} {x y:Operand} {v u:Value}
theorem q_field {T i k b off m:Nat} [q:QFB P T i k] (hx:ev f x=.pointer (some ⟨b,off,none⟩)) [z:QAdd off k m]:OP P w0 n ⟨d,.fieldAddr T x i,ty,pos,aft,g⟩ f l (.pointer (some ⟨b,m,none⟩)):=by
  have:=op_field (w0:=w0) (n:=n) (l:=l) (d:=d) (ty:=ty) (pos:=pos) (aft:=aft) (g:=g) q.h hx
  rwa [z.h] at this
theorem q_ld {T b j:Nat} {cs:Array Value} {t:TypeId} {fr:Nat×Nat} [c:QSC P T] (hx:ev f x=.pointer (some ⟨b,j,none⟩)) [q:QHB l b cs t fr] (hv:cs[j]? = some v:=by rfl):OP P w0 n ⟨d,.load T x,ty,pos,aft,g⟩ f l v :=
  let ⟨i,h⟩:=q.h;op_ld i c.h h hx hv
theorem q_lr {T b j:Nat} {cs:Array Value} {t:TypeId} {fr:Nat×Nat} [c:QSC P T] (hx:ev f x=.pointer (some ⟨b,j,none⟩)) [q:QHB l b cs t fr] [z:QCA cs j v]:OP P w0 n ⟨d,.load T x,ty,pos,aft,g⟩ f l v :=
  let ⟨i,h⟩:=q.h;op_ld i c.h h hx z.h
theorem q_la {T b j k:Nat} {cs:Array Value} {t:TypeId} {fr:Nat×Nat} {L:List Value} [c:QAG P T k] (hx:ev f x=.pointer (some ⟨b,j,none⟩)) [q:QHB l b cs t fr] [z:QCL cs j k L]:OP P w0 n ⟨d,.load T x,ty,pos,aft,g⟩ f l (.agg L.toArray) :=
  let ⟨i,h⟩:=q.h;op_lda i c.h h hx z.h z.s
theorem isMv {x:Operand} (h:OP P w0 n ⟨d,.move x,ty,pos,aft,g⟩ f l v):OP P w0 n ⟨d,.move x,ty,pos,aft,g⟩ f l v:=h
theorem isFA {T i:Nat} {x:Operand} (h:OP P w0 n ⟨d,.fieldAddr T x i,ty,pos,aft,g⟩ f l v):OP P w0 n ⟨d,.fieldAddr T x i,ty,pos,aft,g⟩ f l v:=h
theorem isNC {x:Operand} (h:OP P w0 n ⟨d,.nilCheck x,ty,pos,aft,g⟩ f l v):OP P w0 n ⟨d,.nilCheck x,ty,pos,aft,g⟩ f l v:=h
theorem isAs {x:Operand} (h:OP P w0 n ⟨d,.assign x,ty,pos,aft,g⟩ f l v):OP P w0 n ⟨d,.assign x,ty,pos,aft,g⟩ f l v:=h
theorem isLd {T:Nat} {x:Operand} (h:OP P w0 n ⟨d,.load T x,ty,pos,aft,g⟩ f l v):OP P w0 n ⟨d,.load T x,ty,pos,aft,g⟩ f l v:=h
theorem isEx {i:Nat} {x:Operand} (h:OP P w0 n ⟨d,.extract x i,ty,pos,aft,g⟩ f l v):OP P w0 n ⟨d,.extract x i,ty,pos,aft,g⟩ f l v:=h
theorem isBo {b:BinOp} {T T2:Nat} {x y:Operand} (h:OP P w0 n ⟨d,.binOp b T x y T2,ty,pos,aft,g⟩ f l v):OP P w0 n ⟨d,.binOp b T x y T2,ty,pos,aft,g⟩ f l v:=h
theorem isUn {b:UnOp} {T:Nat} {x:Operand} (h:OP P w0 n ⟨d,.unOp b T x,ty,pos,aft,g⟩ f l v):OP P w0 n ⟨d,.unOp b T x,ty,pos,aft,g⟩ f l v:=h
theorem oa {o:Oper} (h:OP P w0 n o f l v:=by first | ((with_reducible apply isMv);(first | exact op_move (v:=.pointer _) rfl | exact op_move (v:=.int _ _) rfl | exact op_move (v:=.bool _) rfl | exact op_move (v:=.slice _ _ _) rfl | exact op_move (v:=.tuple _) rfl | exact op_move (v:=.agg _) rfl | exact op_move (v:=.string _) rfl | exact op_move (v:=.map _) rfl)) | ((with_reducible apply isFA);exact q_field rfl) | ((with_reducible apply isNC);exact op_nilck rfl) | ((with_reducible apply isAs);(first | exact op_assign (v:=.int _ _) rfl | exact op_assign (v:=.bool _) rfl | exact op_assign (v:=.pointer _) rfl | exact op_assign (v:=.slice _ _ _) rfl | exact op_assign (v:=.string _) rfl | exact op_assign (v:=.agg _) rfl | exact op_assign (v:=.map _) rfl)) | ((with_reducible apply isLd);(first | exact q_lr rfl | exact q_la rfl | exact q_ld rfl | exact op_ld 0 QSC.h rfl rfl rfl | exact op_ld 1 QSC.h rfl rfl rfl | exact op_ld 2 QSC.h rfl rfl rfl | exact op_ld 3 QSC.h rfl rfl rfl | exact op_ld 4 QSC.h rfl rfl rfl | exact op_ld 5 QSC.h rfl rfl rfl | exact op_ld 6 QSC.h rfl rfl rfl | exact op_ld 7 QSC.h rfl rfl rfl | exact op_ld 8 QSC.h rfl rfl rfl | exact op_ld 9 QSC.h rfl rfl rfl | exact op_ld 10 QSC.h rfl rfl rfl | exact op_ld 11 QSC.h rfl rfl rfl | exact op_ld 12 QSC.h rfl rfl rfl | exact op_ld 0 QSC.h rfl rfl QCA.h | exact op_ld 1 QSC.h rfl rfl QCA.h | exact op_ld 2 QSC.h rfl rfl QCA.h | exact op_ld 3 QSC.h rfl rfl QCA.h | exact op_ld 4 QSC.h rfl rfl QCA.h | exact op_ld 5 QSC.h rfl rfl QCA.h | exact op_ld 6 QSC.h rfl rfl QCA.h | exact op_ld 7 QSC.h rfl rfl QCA.h | exact op_ld 8 QSC.h rfl rfl QCA.h | exact op_ld 9 QSC.h rfl rfl QCA.h | exact op_ld 10 QSC.h rfl rfl QCA.h | exact op_ld 11 QSC.h rfl rfl QCA.h | exact op_ld 12 QSC.h rfl rfl QCA.h | exact op_lda 0 QAG.h rfl rfl QCL.h QCL.s | exact op_lda 1 QAG.h rfl rfl QCL.h QCL.s | exact op_lda 2 QAG.h rfl rfl QCL.h QCL.s | exact op_lda 3 QAG.h rfl rfl QCL.h QCL.s | exact op_lda 4 QAG.h rfl rfl QCL.h QCL.s | exact op_lda 5 QAG.h rfl rfl QCL.h QCL.s | exact op_lda 6 QAG.h rfl rfl QCL.h QCL.s | exact op_lda 7 QAG.h rfl rfl QCL.h QCL.s | exact op_lda 8 QAG.h rfl rfl QCL.h QCL.s | exact op_lda 9 QAG.h rfl rfl QCL.h QCL.s | exact op_lda 10 QAG.h rfl rfl QCL.h QCL.s | exact op_lda 11 QAG.h rfl rfl QCL.h QCL.s | exact op_lda 12 QAG.h rfl rfl QCL.h QCL.s)) | ((with_reducible apply isEx);(first | exact op_extract (v:=.pointer _) rfl rfl | exact op_extract (v:=.bool _) rfl rfl | exact op_extract (v:=.int _ _) rfl rfl | exact op_extract (v:=.agg _) rfl rfl | exact op_extract (v:=.slice _ _ _) rfl rfl | exact op_extract (v:=.string _) rfl rfl)) | ((with_reducible apply isBo);(first | exact op_lt rfl rfl | exact op_ge rfl rfl | exact op_eq rfl rfl | exact op_gt rfl rfl | exact op_ne rfl rfl | exact op_le rfl rfl | exact op_add rfl rfl (by omega) (by omega) | exact op_sub rfl rfl (by omega) (by omega))) | ((with_reducible apply isUn);exact op_not rfl)):OP P w0 n o f l v:=h
structure Hid (p:Prop):Prop where
  h:p
theorem isOL {Q:Exit→Act→World→Prop} {ops:Array Oper} {o:Oper} {r:List Oper} (h:OL P w0 n ops Q (o::r) f l):OL P w0 n ops Q (o::r) f l:=h
theorem isRG {ops:Array Oper} {imps:List Nat} {K:Act→List HProp→Prop} {o:Oper} {r:List Oper} {k:Nat} {M:List HProp} (h:RG P w0 n ops imps K l (o::r) k f M):RG P w0 n ops imps K l (o::r) k f M:=h
theorem R1 {p q:Prop} (k:q) (h:Hid q→p:=by intro zk;(first | ((with_reducible refine isOL ?_);refine oq oa ?_) | with_reducible refine ol_nil ?_ | with_reducible refine cd_sr ?_ | with_reducible refine cd_seq ?_ | with_reducible refine cd_region ?_ | with_reducible refine cd_skip ?_ | with_reducible refine cd_ret ?_ | with_reducible refine cd_exit ?_ | with_reducible refine cd_block ?_ | with_reducible refine px_then ?_ | with_reducible refine px_blockN ?_ | with_reducible refine px_thenR ?_ | with_reducible refine px_blockR ?_ | with_reducible refine px_thenE ?_ | with_reducible refine px_blockE ?_ | ((with_reducible refine isRG ?_);refine rg_q (wn_none rfl) oa rfl rfl ?_) | refine oq oa ?_ | refine rg_q (wn_none rfl) oa rfl rfl ?_ | refine cd_sr ?_ | refine cd_seq ?_ | refine cd_region ?_);exact zk.h):p:=h ⟨k⟩
theorem R2 {p q:Prop} (k:q) (h:Hid q→p:=by intro zk;refine R1 ?_;refine R1 ?_;exact zk.h):p:=h ⟨k⟩
theorem R3 {p q:Prop} (k:q) (h:Hid q→p:=by intro zk;refine R2 ?_;refine R1 ?_;exact zk.h):p:=h ⟨k⟩
theorem R4 {p q:Prop} (k:q) (h:Hid q→p:=by intro zk;refine R2 ?_;refine R2 ?_;exact zk.h):p:=h ⟨k⟩
theorem R5 {p q:Prop} (k:q) (h:Hid q→p:=by intro zk;refine R3 ?_;refine R2 ?_;exact zk.h):p:=h ⟨k⟩
theorem R6 {p q:Prop} (k:q) (h:Hid q→p:=by intro zk;refine R3 ?_;refine R3 ?_;exact zk.h):p:=h ⟨k⟩
theorem R7 {p q:Prop} (k:q) (h:Hid q→p:=by intro zk;refine R4 ?_;refine R3 ?_;exact zk.h):p:=h ⟨k⟩
theorem R8 {p q:Prop} (k:q) (h:Hid q→p:=by intro zk;refine R4 ?_;refine R4 ?_;exact zk.h):p:=h ⟨k⟩
theorem R9 {p q:Prop} (k:q) (h:Hid q→p:=by intro zk;refine R5 ?_;refine R4 ?_;exact zk.h):p:=h ⟨k⟩
theorem R10 {p q:Prop} (k:q) (h:Hid q→p:=by intro zk;refine R5 ?_;refine R5 ?_;exact zk.h):p:=h ⟨k⟩
theorem R11 {p q:Prop} (k:q) (h:Hid q→p:=by intro zk;refine R6 ?_;refine R5 ?_;exact zk.h):p:=h ⟨k⟩
theorem R12 {p q:Prop} (k:q) (h:Hid q→p:=by intro zk;refine R6 ?_;refine R6 ?_;exact zk.h):p:=h ⟨k⟩
theorem R13 {p q:Prop} (k:q) (h:Hid q→p:=by intro zk;refine R7 ?_;refine R6 ?_;exact zk.h):p:=h ⟨k⟩
theorem R14 {p q:Prop} (k:q) (h:Hid q→p:=by intro zk;refine R7 ?_;refine R7 ?_;exact zk.h):p:=h ⟨k⟩
theorem R15 {p q:Prop} (k:q) (h:Hid q→p:=by intro zk;refine R8 ?_;refine R7 ?_;exact zk.h):p:=h ⟨k⟩
theorem R16 {p q:Prop} (k:q) (h:Hid q→p:=by intro zk;refine R8 ?_;refine R8 ?_;exact zk.h):p:=h ⟨k⟩
theorem R20 {p q:Prop} (k:q) (h:Hid q→p:=by intro zk;refine R10 ?_;refine R10 ?_;exact zk.h):p:=h ⟨k⟩
end
section
variable {P:Program} {w0:World} {n:Nat} {f:Fr} {l:List HProp} {Q:Exit→Act→World→Prop} {ops:Array Oper} {b:Bool} {p1 p2:Prop}
theorem cdc {c:Operand} {x y:Code} (hc:ev f c=.bool b) (ht:b=true→p1→CD P w0 n x Q f l) (hf:b=false→p2→CD P w0 n y Q f l) (s1:b=true→p1:=by intro zh;(try simp only [bn] at zh);exact zh) (s2:b=false→p2:=by intro zh;(try simp only [bn] at zh);exact zh):CD P w0 n (.cond c x y) Q f l:=cd_cond hc (fun h=>ht h (s1 h)) fun h=>hf h (s2 h)
theorem ols {rest:List Oper} (d:Nat) (hd:f d=.bool b) (ht:b=true→p1→OL P w0 n ops Q rest f l) (hf:b=false→p2→OL P w0 n ops Q rest f l) (s1:b=true→p1:=by intro zh;(try simp only [bn] at zh);exact zh) (s2:b=false→p2:=by intro zh;(try simp only [bn] at zh);exact zh):OL P w0 n ops Q rest f l:=ol_split d hd (fun h=>ht h (s1 h)) fun h=>hf h (s2 h)
theorem rgs {imps:List Nat} {K:Act→List HProp→Prop} {r:List Oper} {k:Nat} {M:List HProp} (d:Nat) (hd:f d=.bool b) (ht:b=true→p1→RG P w0 n ops imps K l r k f M) (hf:b=false→p2→RG P w0 n ops imps K l r k f M) (s1:b=true→p1:=by intro zh;(try simp only [bn] at zh);exact zh) (s2:b=false→p2:=by intro zh;(try simp only [bn] at zh);exact zh):RG P w0 n ops imps K l r k f M:=rg_split d hd (fun h=>ht h (s1 h)) fun h=>hf h (s2 h)
theorem ets {imps:List Nat} {k:Nat} {L:Array Bool→Act→List HProp→Prop} {listed:Array Bool} {M:List HProp} (d:Nat) (hd:f d=.bool b) (ht:b=true→p1→ET P w0 n ops imps ops.size L l k listed f M) (hf:b=false→p2→ET P w0 n ops imps ops.size L l k listed f M) (s1:b=true→p1:=by intro zh;(try simp only [bn] at zh);exact zh) (s2:b=false→p2:=by intro zh;(try simp only [bn] at zh);exact zh):ET P w0 n ops imps ops.size L l k listed f M:=et_split d hd (fun h=>ht h (s1 h)) fun h=>hf h (s2 h)
end
instance (v:Vote):QCA (voteC v).toArray 0 (.int .i64 v.who):=⟨voteC_a0 v⟩
instance (v:Vote):QCA (voteC v).toArray 1 (.int .i64 v.slot):=⟨voteC_a1 v⟩
instance (v:Node):QCA (nodeC v).toArray 32 (.int .i64 v.slot):=⟨nodeC_a32 v⟩
instance (v:Node):QCA (nodeC v).toArray 33 (.int .i64 v.parent):=⟨nodeC_a33 v⟩
instance (v:Delta):QCA (deltaC v).toArray 32 (.int .i64 v.n):=⟨deltaC_a32 v⟩
instance (v:TCall):QCA (tCallC v).toArray 0 (.bool v.fg):=⟨tCallC_a0 v⟩
instance (v:TCall):QCA (tCallC v).toArray 1 (.int .i64 v.who):=⟨tCallC_a1 v⟩
instance (v:TCall):QCA (tCallC v).toArray 2 (.int .i64 v.slot):=⟨tCallC_a2 v⟩
instance (v:TCall):QCA (tCallC v).toArray 3 (.int .i64 v.nr):=⟨tCallC_a3 v⟩
instance (v:TAdd):QCA (tAddC v).toArray 0 (.int .i64 v.root):=⟨tAddC_a0 v⟩
instance (v:TAdd):QCA (tAddC v).toArray 1 (.int .i64 v.parent):=⟨tAddC_a1 v⟩
instance (v:TAdd):QCA (tAddC v).toArray 2 (.int .i64 v.slot):=⟨tAddC_a2 v⟩
instance (v:First):QCA (firstC v).toArray 0 (.int .i64 v.who):=⟨firstC_a0 v⟩
instance (v:First):QCA (firstC v).toArray 1 (.int .i64 v.epoch):=⟨firstC_a1 v⟩
instance (v:Vote):QCL (voteC v).toArray 2 32 (rootC v.target):=⟨voteC_af2 v,by simp [voteC_len]⟩
instance (v:Node):QCL (nodeC v).toArray 0 32 (rootC v.root):=⟨nodeC_af0 v,by simp [nodeC_len]⟩
instance (v:Delta):QCL (deltaC v).toArray 0 32 (rootC v.root):=⟨deltaC_af0 v,by simp [deltaC_len]⟩
instance (v:First):QCL (firstC v).toArray 2 32 (rootC v.target):=⟨firstC_af2 v,by simp [firstC_len]⟩
instance (v:Vote):QCL (voteC v).toArray 0 34 (voteC v):=⟨voteC_ta v,by simp [voteC_len]⟩
instance (v:Node):QCL (nodeC v).toArray 0 34 (nodeC v):=⟨nodeC_ta v,by simp [nodeC_len]⟩
instance (v:Delta):QCL (deltaC v).toArray 0 33 (deltaC v):=⟨deltaC_ta v,by simp [deltaC_len]⟩
instance (v:TCall):QCL (tCallC v).toArray 0 4 (tCallC v):=⟨tCallC_ta v,by simp [tCallC_len]⟩
instance (v:TAdd):QCL (tAddC v).toArray 0 3 (tAddC v):=⟨tAddC_ta v,by simp [tAddC_len]⟩
instance (v:First):QCL (firstC v).toArray 0 34 (firstC v):=⟨firstC_ta v,by simp [firstC_len]⟩
instance (v:Val):QCA (valC v).toArray 0 (.int .i64 v.stake):=⟨valC_a0 v⟩
instance (v:Val):QCA (valC v).toArray 1 (.string (B v.key)):=⟨valC_a1 v⟩
instance (v:Cfg):QCA (cfgC v).toArray 0 (SlV.v v.vs):=⟨cfgC_a0 v⟩
instance (v:Cfg):QCA (cfgC v).toArray 1 (.int .i64 v.epoch):=⟨cfgC_a1 v⟩
instance (v:Cfg):QCA (cfgC v).toArray 2 (.int .i64 v.committee):=⟨cfgC_a2 v⟩
instance (v:Cfg):QCA (cfgC v).toArray 3 (.int .i64 v.nodes):=⟨cfgC_a3 v⟩
instance (v:Cfg):QCA (cfgC v).toArray 4 (.int .i64 v.orphans):=⟨cfgC_a4 v⟩
instance (v:Cfg):QCA (cfgC v).toArray 5 (.int .i64 v.early):=⟨cfgC_a5 v⟩
instance (v:Cfg):QCA (cfgC v).toArray 6 (.int .i64 v.quota):=⟨cfgC_a6 v⟩
instance (v:Cfg):QCA (cfgC v).toArray 7 (.int .i64 v.peers):=⟨cfgC_a7 v⟩
instance (v:Cfg):QCA (cfgC v).toArray 8 (.int .i64 v.bytes):=⟨cfgC_a8 v⟩
instance (v:Cfg):QCA (cfgC v).toArray 9 (.int .i64 v.window):=⟨cfgC_a9 v⟩
instance (v:Cfg):QCA (cfgC v).toArray 10 (.int .i64 v.ban):=⟨cfgC_a10 v⟩
instance (v:Cfg):QCA (cfgC v).toArray 11 (.int .i64 v.decay):=⟨cfgC_a11 v⟩
instance (v:Val):QCL (valC v).toArray 0 2 (valC v):=⟨valC_ta v,by simp [valC_len]⟩
instance (v:Cfg):QCL (cfgC v).toArray 0 12 (cfgC v):=⟨cfgC_ta v,by simp [cfgC_len]⟩
instance (v:St):QCA (stC v).toArray 8 (SlV.v v.rest):=⟨stC_a8 v⟩
instance (v:St):QCA (stC v).toArray 9 (.int .u64 (v.size:Int)):=⟨stC_a9 v⟩
instance (v:Msg):QCA (msgC v).toArray 0 (.int .i64 v.kind):=⟨msgC_a0 v⟩
instance (v:Msg):QCA (msgC v).toArray 1 (.int .i64 v.slot):=⟨msgC_a1 v⟩
instance (v:Msg):QCA (msgC v).toArray 34 (.int .i64 v.member):=⟨msgC_a34 v⟩
instance (v:Msg):QCA (msgC v).toArray 35 (.int .u64 (v.body:Int)):=⟨msgC_a35 v⟩
instance (v:Msg):QCA (msgC v).toArray 36 (SlV.v v.bits):=⟨msgC_a36 v⟩
instance (v:St):QCL (stC v).toArray 0 8 (w8C v.w):=⟨stC_af0 v,by simp [stC_len]⟩
instance (v:Msg):QCL (msgC v).toArray 2 32 (rootC v.target):=⟨msgC_af2 v,by simp [msgC_len]⟩
instance (v:Msg):QCL (msgC v).toArray 37 16 (tagC v.tag):=⟨msgC_af37 v,by simp [msgC_len]⟩
instance (v:St):QCL (stC v).toArray 0 10 (stC v):=⟨stC_ta v,by simp [stC_len]⟩
instance (v:Msg):QCL (msgC v).toArray 0 53 (msgC v):=⟨msgC_ta v,by simp [msgC_len]⟩
instance (v:WAct):QCA (wActC v).toArray 0 (.int .i64 v.kind):=⟨wActC_a0 v⟩
instance (v:WAct):QCA (wActC v).toArray 1 (.int .i64 v.root):=⟨wActC_a1 v⟩
instance (v:WAct):QCA (wActC v).toArray 2 (.int .i64 v.parent):=⟨wActC_a2 v⟩
instance (v:WAct):QCA (wActC v).toArray 3 (.int .i64 v.slot):=⟨wActC_a3 v⟩
instance (v:WAct):QCA (wActC v).toArray 4 (.int .i64 v.n):=⟨wActC_a4 v⟩
instance (v:WAct):QCA (wActC v).toArray 5 (.int .i64 v.more):=⟨wActC_a5 v⟩
instance (v:WAct):QCL (wActC v).toArray 0 6 (wActC v):=⟨wActC_ta v,by simp [wActC_len]⟩
instance (v:PBlk):QCA (pBlkC v).toArray 0 (.int .i64 v.root):=⟨pBlkC_a0 v⟩
instance (v:PBlk):QCA (pBlkC v).toArray 1 (.int .i64 v.parent):=⟨pBlkC_a1 v⟩
instance (v:PBlk):QCA (pBlkC v).toArray 2 (.int .i64 v.slot):=⟨pBlkC_a2 v⟩
instance (v:PBlk):QCA (pBlkC v).toArray 3 (.int .i64 v.n):=⟨pBlkC_a3 v⟩
instance (v:VAct):QCA (vActC v).toArray 0 (.int .i64 v.kind):=⟨vActC_a0 v⟩
instance (v:VAct):QCA (vActC v).toArray 1 (.int .i64 v.root):=⟨vActC_a1 v⟩
instance (v:VAct):QCA (vActC v).toArray 2 (.int .i64 v.parent):=⟨vActC_a2 v⟩
instance (v:VAct):QCA (vActC v).toArray 3 (.int .i64 v.slot):=⟨vActC_a3 v⟩
instance (v:VAct):QCA (vActC v).toArray 4 (.int .i64 v.who):=⟨vActC_a4 v⟩
instance (v:PBlk):QCL (pBlkC v).toArray 0 4 (pBlkC v):=⟨pBlkC_ta v,by simp [pBlkC_len]⟩
instance (v:VAct):QCL (vActC v).toArray 0 5 (vActC v):=⟨vActC_ta v,by simp [vActC_len]⟩
structure PItem where
  slot:Int
  root:Root
  peer:Int
  par:Root
  text:List UInt8
  deriving DecidableEq
def PItem.zero:PItem:=⟨0,Root.zero,0,Root.zero,[]⟩
def pItemC (v:PItem):List Value:=[.int .i64 v.slot]++(rootC v.root++([.int .i64 v.peer]++(rootC v.par++([.string (B v.text)]))))
theorem pItemC_len (v:PItem):(pItemC v).length=67:=by simp [pItemC,rootC_len]
theorem pItemC_take' (v:PItem):(pItemC v).take 67=pItemC v:=List.take_of_length_le (by rw [pItemC_len];exact Nat.le_refl _)
theorem pItemC_ta (v:PItem):((pItemC v).drop 0).take 67=pItemC v:=pItemC_take' v
theorem pItemC_one (v:PItem):∀ u∈pItemC v,u.oneCell'=true:=fun u hu=>by
  simp only [pItemC,List.mem_append,List.mem_singleton] at hu
  rcases hu with h | h | h | h | h
  · subst h;rfl
  · exact rootC_one _ u h
  · subst h;rfl
  · exact rootC_one _ u h
  · subst h;rfl
def encPItem:Enc PItem:=⟨pItemC,67,pItemC_len,pItemC_one,by omega⟩
theorem pItemC_d0 (v:PItem):(pItemC v).drop 0=[.int .i64 v.slot]++(rootC v.root++([.int .i64 v.peer]++(rootC v.par++([.string (B v.text)])))):=rfl
theorem pItemC_l0 (v:PItem):(pItemC v)[0]? = some (.int .i64 v.slot):=by
  have h:=pItemC_d0 v
  have h2:((pItemC v).drop 0)[0]? = some (.int .i64 v.slot):=by rw [h];rfl
  rwa [List.getElem?_drop] at h2
theorem pItemC_a0 (v:PItem):(pItemC v).toArray[0]? = some (.int .i64 v.slot):=by
  rw [List.getElem?_toArray];exact pItemC_l0 v
theorem pItemC_d1 (v:PItem):(pItemC v).drop 1=rootC v.root++([.int .i64 v.peer]++(rootC v.par++([.string (B v.text)]))):=rfl
theorem pItemC_f1 (v:PItem):((pItemC v).drop 1).take 32=rootC v.root:=by
  rw [pItemC_d1]
  exact rootC_take _ _
theorem pItemC_af1 (v:PItem):((pItemC v).toArray.toList.drop 1).take 32=rootC v.root:=pItemC_f1 v
theorem pItemC_d33 (v:PItem):(pItemC v).drop 33=[.int .i64 v.peer]++(rootC v.par++([.string (B v.text)])):=by
  simp only [pItemC,List.drop_append,List.length_append,rootC_len,List.length_singleton,List.length_cons,List.length_nil]
  have eroot:∀ r:Root,(rootC r).drop 32=[]:=fun r=>List.drop_eq_nil_of_le (by rw [rootC_len];exact Nat.le_refl _)
  simp [eroot,List.drop_eq_nil_of_le,rootC_len]
theorem pItemC_l33 (v:PItem):(pItemC v)[33]? = some (.int .i64 v.peer):=by
  have h:=pItemC_d33 v
  have h2:((pItemC v).drop 33)[0]? = some (.int .i64 v.peer):=by rw [h];rfl
  rwa [List.getElem?_drop] at h2
theorem pItemC_a33 (v:PItem):(pItemC v).toArray[33]? = some (.int .i64 v.peer):=by
  rw [List.getElem?_toArray];exact pItemC_l33 v
theorem pItemC_d34 (v:PItem):(pItemC v).drop 34=rootC v.par++([.string (B v.text)]):=by
  simp only [pItemC,List.drop_append,List.length_append,rootC_len,List.length_singleton,List.length_cons,List.length_nil]
  have eroot:∀ r:Root,(rootC r).drop 32=[]:=fun r=>List.drop_eq_nil_of_le (by rw [rootC_len];exact Nat.le_refl _)
  simp [eroot,List.drop_eq_nil_of_le,rootC_len]
theorem pItemC_f34 (v:PItem):((pItemC v).drop 34).take 32=rootC v.par:=by
  rw [pItemC_d34]
  exact rootC_take _ _
theorem pItemC_af34 (v:PItem):((pItemC v).toArray.toList.drop 34).take 32=rootC v.par:=pItemC_f34 v
theorem pItemC_d66 (v:PItem):(pItemC v).drop 66=[.string (B v.text)]:=by
  simp only [pItemC,List.drop_append,List.length_append,rootC_len,List.length_singleton,List.length_cons,List.length_nil]
  have eroot:∀ r:Root,(rootC r).drop 32=[]:=fun r=>List.drop_eq_nil_of_le (by rw [rootC_len];exact Nat.le_refl _)
  simp [eroot,List.drop_eq_nil_of_le,rootC_len]
theorem pItemC_l66 (v:PItem):(pItemC v)[66]? = some (.string (B v.text)):=by
  have h:=pItemC_d66 v
  have h2:((pItemC v).drop 66)[0]? = some (.string (B v.text)):=by rw [h];rfl
  rwa [List.getElem?_drop] at h2
theorem pItemC_a66 (v:PItem):(pItemC v).toArray[66]? = some (.string (B v.text)):=by
  rw [List.getElem?_toArray];exact pItemC_l66 v
theorem pItemC_p0 (v:PItem) (x:Int):(pItemC v).take 0++([.int .i64 x])++(pItemC v).drop 1=pItemC { v with slot:=x }:=by
  unfold pItemC
  simp [List.take_append,List.drop_append,rootC_len,List.take_of_length_le,List.drop_eq_nil_of_le]
theorem pItemC_b0 (v:PItem) (x:Int) (r:List (Nat×Value)):fill2 [(0,1),(1,32),(33,1),(34,32),(66,1)] (pItemC v) ((0,.int .i64 x)::r)=fill2 [(0,1),(1,32),(33,1),(34,32),(66,1)] (pItemC { v with slot:=x }) r:=congrArg (fun q=>fill2 [(0,1),(1,32),(33,1),(34,32),(66,1)] q r) (pItemC_p0 v x)
theorem pItemC_p1 (v:PItem) (x:Root):(pItemC v).take 1++(rootC x)++(pItemC v).drop 33=pItemC { v with root:=x }:=by
  unfold pItemC
  simp [List.take_append,List.drop_append,rootC_len,List.take_of_length_le,List.drop_eq_nil_of_le]
theorem pItemC_b1 (v:PItem) (x:Root) (r:List (Nat×Value)):fill2 [(0,1),(1,32),(33,1),(34,32),(66,1)] (pItemC v) ((1,.agg (rootC x).toArray)::r)=fill2 [(0,1),(1,32),(33,1),(34,32),(66,1)] (pItemC { v with root:=x }) r:=congrArg (fun q=>fill2 [(0,1),(1,32),(33,1),(34,32),(66,1)] q r) (pItemC_p1 v x)
theorem pItemC_p33 (v:PItem) (x:Int):(pItemC v).take 33++([.int .i64 x])++(pItemC v).drop 34=pItemC { v with peer:=x }:=by
  unfold pItemC
  simp [List.take_append,List.drop_append,rootC_len,List.take_of_length_le,List.drop_eq_nil_of_le]
theorem pItemC_b2 (v:PItem) (x:Int) (r:List (Nat×Value)):fill2 [(0,1),(1,32),(33,1),(34,32),(66,1)] (pItemC v) ((2,.int .i64 x)::r)=fill2 [(0,1),(1,32),(33,1),(34,32),(66,1)] (pItemC { v with peer:=x }) r:=congrArg (fun q=>fill2 [(0,1),(1,32),(33,1),(34,32),(66,1)] q r) (pItemC_p33 v x)
theorem pItemC_p34 (v:PItem) (x:Root):(pItemC v).take 34++(rootC x)++(pItemC v).drop 66=pItemC { v with par:=x }:=by
  unfold pItemC
  simp [List.take_append,List.drop_append,rootC_len,List.take_of_length_le,List.drop_eq_nil_of_le]
theorem pItemC_b3 (v:PItem) (x:Root) (r:List (Nat×Value)):fill2 [(0,1),(1,32),(33,1),(34,32),(66,1)] (pItemC v) ((3,.agg (rootC x).toArray)::r)=fill2 [(0,1),(1,32),(33,1),(34,32),(66,1)] (pItemC { v with par:=x }) r:=congrArg (fun q=>fill2 [(0,1),(1,32),(33,1),(34,32),(66,1)] q r) (pItemC_p34 v x)
theorem pItemC_p66 (v:PItem) (x:List UInt8):(pItemC v).take 66++([.string (B x)])++(pItemC v).drop 67=pItemC { v with text:=x }:=by
  unfold pItemC
  simp [List.take_append,List.drop_append,rootC_len,List.take_of_length_le,List.drop_eq_nil_of_le]
theorem pItemC_b4 (v:PItem) (x:List UInt8) (r:List (Nat×Value)):fill2 [(0,1),(1,32),(33,1),(34,32),(66,1)] (pItemC v) ((4,.string (B x))::r)=fill2 [(0,1),(1,32),(33,1),(34,32),(66,1)] (pItemC { v with text:=x }) r:=congrArg (fun q=>fill2 [(0,1),(1,32),(33,1),(34,32),(66,1)] q r) (pItemC_p66 v x)
structure SeatR where
  lot:Root
  who:Int
  deriving DecidableEq
def SeatR.zero:SeatR:=⟨Root.zero,0⟩
def seatRC (v:SeatR):List Value:=rootC v.lot++([.int .i64 v.who])
theorem seatRC_len (v:SeatR):(seatRC v).length=33:=by simp [seatRC,rootC_len]
theorem seatRC_take' (v:SeatR):(seatRC v).take 33=seatRC v:=List.take_of_length_le (by rw [seatRC_len];exact Nat.le_refl _)
theorem seatRC_ta (v:SeatR):((seatRC v).drop 0).take 33=seatRC v:=seatRC_take' v
theorem seatRC_one (v:SeatR):∀ u∈seatRC v,u.oneCell'=true:=fun u hu=>by
  simp only [seatRC,List.mem_append,List.mem_singleton] at hu
  rcases hu with h | h
  · exact rootC_one _ u h
  · subst h;rfl
def encSeatR:Enc SeatR:=⟨seatRC,33,seatRC_len,seatRC_one,by omega⟩
theorem seatRC_d0 (v:SeatR):(seatRC v).drop 0=rootC v.lot++([.int .i64 v.who]):=rfl
theorem seatRC_f0 (v:SeatR):((seatRC v).drop 0).take 32=rootC v.lot:=by
  rw [seatRC_d0]
  exact rootC_take _ _
theorem seatRC_af0 (v:SeatR):((seatRC v).toArray.toList.drop 0).take 32=rootC v.lot:=seatRC_f0 v
theorem seatRC_d32 (v:SeatR):(seatRC v).drop 32=[.int .i64 v.who]:=by
  simp only [seatRC,List.drop_append,List.length_append,rootC_len,List.length_singleton,List.length_cons,List.length_nil]
  have eroot:∀ r:Root,(rootC r).drop 32=[]:=fun r=>List.drop_eq_nil_of_le (by rw [rootC_len];exact Nat.le_refl _)
  simp [eroot,List.drop_eq_nil_of_le,rootC_len]
theorem seatRC_l32 (v:SeatR):(seatRC v)[32]? = some (.int .i64 v.who):=by
  have h:=seatRC_d32 v
  have h2:((seatRC v).drop 32)[0]? = some (.int .i64 v.who):=by rw [h];rfl
  rwa [List.getElem?_drop] at h2
theorem seatRC_a32 (v:SeatR):(seatRC v).toArray[32]? = some (.int .i64 v.who):=by
  rw [List.getElem?_toArray];exact seatRC_l32 v
theorem seatRC_p0 (v:SeatR) (x:Root):(seatRC v).take 0++(rootC x)++(seatRC v).drop 32=seatRC { v with lot:=x }:=by
  unfold seatRC
  simp [List.take_append,List.drop_append,rootC_len,List.take_of_length_le,List.drop_eq_nil_of_le]
theorem seatRC_b0 (v:SeatR) (x:Root) (r:List (Nat×Value)):fill2 [(0,32),(32,1)] (seatRC v) ((0,.agg (rootC x).toArray)::r)=fill2 [(0,32),(32,1)] (seatRC { v with lot:=x }) r:=congrArg (fun q=>fill2 [(0,32),(32,1)] q r) (seatRC_p0 v x)
theorem seatRC_p32 (v:SeatR) (x:Int):(seatRC v).take 32++([.int .i64 x])++(seatRC v).drop 33=seatRC { v with who:=x }:=by
  unfold seatRC
  simp [List.take_append,List.drop_append,rootC_len,List.take_of_length_le,List.drop_eq_nil_of_le]
theorem seatRC_b1 (v:SeatR) (x:Int) (r:List (Nat×Value)):fill2 [(0,32),(32,1)] (seatRC v) ((1,.int .i64 x)::r)=fill2 [(0,32),(32,1)] (seatRC { v with who:=x }) r:=congrArg (fun q=>fill2 [(0,32),(32,1)] q r) (seatRC_p32 v x)
structure GBlk where
  root:Root
  parent:Root
  deriving DecidableEq
def GBlk.zero:GBlk:=⟨Root.zero,Root.zero⟩
def gBlkC (v:GBlk):List Value:=rootC v.root++(rootC v.parent)
theorem gBlkC_len (v:GBlk):(gBlkC v).length=64:=by simp [gBlkC,rootC_len]
theorem gBlkC_take' (v:GBlk):(gBlkC v).take 64=gBlkC v:=List.take_of_length_le (by rw [gBlkC_len];exact Nat.le_refl _)
theorem gBlkC_ta (v:GBlk):((gBlkC v).drop 0).take 64=gBlkC v:=gBlkC_take' v
theorem gBlkC_one (v:GBlk):∀ u∈gBlkC v,u.oneCell'=true:=fun u hu=>by
  simp only [gBlkC,List.mem_append,List.mem_singleton] at hu
  rcases hu with h | h
  · exact rootC_one _ u h
  · exact rootC_one _ u h
def encGBlk:Enc GBlk:=⟨gBlkC,64,gBlkC_len,gBlkC_one,by omega⟩
theorem gBlkC_d0 (v:GBlk):(gBlkC v).drop 0=rootC v.root++(rootC v.parent):=rfl
theorem gBlkC_f0 (v:GBlk):((gBlkC v).drop 0).take 32=rootC v.root:=by
  rw [gBlkC_d0]
  exact rootC_take _ _
theorem gBlkC_af0 (v:GBlk):((gBlkC v).toArray.toList.drop 0).take 32=rootC v.root:=gBlkC_f0 v
theorem gBlkC_d32 (v:GBlk):(gBlkC v).drop 32=rootC v.parent:=by
  simp only [gBlkC,List.drop_append,List.length_append,rootC_len,List.length_singleton,List.length_cons,List.length_nil]
  have eroot:∀ r:Root,(rootC r).drop 32=[]:=fun r=>List.drop_eq_nil_of_le (by rw [rootC_len];exact Nat.le_refl _)
  simp [eroot,List.drop_eq_nil_of_le,rootC_len]
theorem gBlkC_f32 (v:GBlk):((gBlkC v).drop 32).take 32=rootC v.parent:=by
  rw [gBlkC_d32]
  exact rootC_take' _
theorem gBlkC_af32 (v:GBlk):((gBlkC v).toArray.toList.drop 32).take 32=rootC v.parent:=gBlkC_f32 v
theorem gBlkC_p0 (v:GBlk) (x:Root):(gBlkC v).take 0++(rootC x)++(gBlkC v).drop 32=gBlkC { v with root:=x }:=by
  unfold gBlkC
  simp [List.take_append,List.drop_append,rootC_len,List.take_of_length_le,List.drop_eq_nil_of_le]
theorem gBlkC_b0 (v:GBlk) (x:Root) (r:List (Nat×Value)):fill2 [(0,32),(32,32)] (gBlkC v) ((0,.agg (rootC x).toArray)::r)=fill2 [(0,32),(32,32)] (gBlkC { v with root:=x }) r:=congrArg (fun q=>fill2 [(0,32),(32,32)] q r) (gBlkC_p0 v x)
theorem gBlkC_p32 (v:GBlk) (x:Root):(gBlkC v).take 32++(rootC x)++(gBlkC v).drop 64=gBlkC { v with parent:=x }:=by
  unfold gBlkC
  simp [List.take_append,List.drop_append,rootC_len,List.take_of_length_le,List.drop_eq_nil_of_le]
theorem gBlkC_b1 (v:GBlk) (x:Root) (r:List (Nat×Value)):fill2 [(0,32),(32,32)] (gBlkC v) ((1,.agg (rootC x).toArray)::r)=fill2 [(0,32),(32,32)] (gBlkC { v with parent:=x }) r:=congrArg (fun q=>fill2 [(0,32),(32,32)] q r) (gBlkC_p32 v x)
structure GShr where
  target:Root
  stake:Int
  deriving DecidableEq
def GShr.zero:GShr:=⟨Root.zero,0⟩
def gShrC (v:GShr):List Value:=rootC v.target++([.int .i64 v.stake])
theorem gShrC_len (v:GShr):(gShrC v).length=33:=by simp [gShrC,rootC_len]
theorem gShrC_take' (v:GShr):(gShrC v).take 33=gShrC v:=List.take_of_length_le (by rw [gShrC_len];exact Nat.le_refl _)
theorem gShrC_ta (v:GShr):((gShrC v).drop 0).take 33=gShrC v:=gShrC_take' v
theorem gShrC_one (v:GShr):∀ u∈gShrC v,u.oneCell'=true:=fun u hu=>by
  simp only [gShrC,List.mem_append,List.mem_singleton] at hu
  rcases hu with h | h
  · exact rootC_one _ u h
  · subst h;rfl
def encGShr:Enc GShr:=⟨gShrC,33,gShrC_len,gShrC_one,by omega⟩
theorem gShrC_d0 (v:GShr):(gShrC v).drop 0=rootC v.target++([.int .i64 v.stake]):=rfl
theorem gShrC_f0 (v:GShr):((gShrC v).drop 0).take 32=rootC v.target:=by
  rw [gShrC_d0]
  exact rootC_take _ _
theorem gShrC_af0 (v:GShr):((gShrC v).toArray.toList.drop 0).take 32=rootC v.target:=gShrC_f0 v
theorem gShrC_d32 (v:GShr):(gShrC v).drop 32=[.int .i64 v.stake]:=by
  simp only [gShrC,List.drop_append,List.length_append,rootC_len,List.length_singleton,List.length_cons,List.length_nil]
  have eroot:∀ r:Root,(rootC r).drop 32=[]:=fun r=>List.drop_eq_nil_of_le (by rw [rootC_len];exact Nat.le_refl _)
  simp [eroot,List.drop_eq_nil_of_le,rootC_len]
theorem gShrC_l32 (v:GShr):(gShrC v)[32]? = some (.int .i64 v.stake):=by
  have h:=gShrC_d32 v
  have h2:((gShrC v).drop 32)[0]? = some (.int .i64 v.stake):=by rw [h];rfl
  rwa [List.getElem?_drop] at h2
theorem gShrC_a32 (v:GShr):(gShrC v).toArray[32]? = some (.int .i64 v.stake):=by
  rw [List.getElem?_toArray];exact gShrC_l32 v
structure OBlk where
  root:Root
  kind:Int
  slot:Int
  target:Root
  member:Int
  body:Nat
  bits:SlV
  tag:Tag
  deriving DecidableEq
def OBlk.zero:OBlk:=⟨Root.zero,0,0,Root.zero,0,0,⟨none,0,0⟩,Tag.zero⟩
def oBlkC (v:OBlk):List Value:=rootC v.root++([.int .i64 v.kind]++([.int .i64 v.slot]++(rootC v.target++([.int .i64 v.member]++([.int .u64 (v.body:Int)]++([SlV.v v.bits]++(tagC v.tag)))))))
theorem oBlkC_len (v:OBlk):(oBlkC v).length=85:=by simp [oBlkC,rootC_len,tagC_len]
theorem oBlkC_take' (v:OBlk):(oBlkC v).take 85=oBlkC v:=List.take_of_length_le (by rw [oBlkC_len];exact Nat.le_refl _)
theorem oBlkC_ta (v:OBlk):((oBlkC v).drop 0).take 85=oBlkC v:=oBlkC_take' v
theorem oBlkC_one (v:OBlk):∀ u∈oBlkC v,u.oneCell'=true:=fun u hu=>by
  simp only [oBlkC,List.mem_append,List.mem_singleton] at hu
  rcases hu with h | h | h | h | h | h | h | h
  · exact rootC_one _ u h
  · subst h;rfl
  · subst h;rfl
  · exact rootC_one _ u h
  · subst h;rfl
  · subst h;rfl
  · subst h;rfl
  · exact tagC_one _ u h
def encOBlk:Enc OBlk:=⟨oBlkC,85,oBlkC_len,oBlkC_one,by omega⟩
theorem oBlkC_d0 (v:OBlk):(oBlkC v).drop 0=rootC v.root++([.int .i64 v.kind]++([.int .i64 v.slot]++(rootC v.target++([.int .i64 v.member]++([.int .u64 (v.body:Int)]++([SlV.v v.bits]++(tagC v.tag))))))):=rfl
theorem oBlkC_f0 (v:OBlk):((oBlkC v).drop 0).take 32=rootC v.root:=by
  rw [oBlkC_d0]
  exact rootC_take _ _
theorem oBlkC_af0 (v:OBlk):((oBlkC v).toArray.toList.drop 0).take 32=rootC v.root:=oBlkC_f0 v
theorem oBlkC_d32 (v:OBlk):(oBlkC v).drop 32=[.int .i64 v.kind]++([.int .i64 v.slot]++(rootC v.target++([.int .i64 v.member]++([.int .u64 (v.body:Int)]++([SlV.v v.bits]++(tagC v.tag)))))):=by
  simp only [oBlkC,List.drop_append,List.length_append,rootC_len,tagC_len,List.length_singleton,List.length_cons,List.length_nil]
  have eroot:∀ r:Root,(rootC r).drop 32=[]:=fun r=>List.drop_eq_nil_of_le (by rw [rootC_len];exact Nat.le_refl _)
  have etag:∀ r:Tag,(tagC r).drop 16=[]:=fun r=>List.drop_eq_nil_of_le (by rw [tagC_len];exact Nat.le_refl _)
  simp [eroot,etag,List.drop_eq_nil_of_le,rootC_len,tagC_len]
theorem oBlkC_l32 (v:OBlk):(oBlkC v)[32]? = some (.int .i64 v.kind):=by
  have h:=oBlkC_d32 v
  have h2:((oBlkC v).drop 32)[0]? = some (.int .i64 v.kind):=by rw [h];rfl
  rwa [List.getElem?_drop] at h2
theorem oBlkC_a32 (v:OBlk):(oBlkC v).toArray[32]? = some (.int .i64 v.kind):=by
  rw [List.getElem?_toArray];exact oBlkC_l32 v
theorem oBlkC_d33 (v:OBlk):(oBlkC v).drop 33=[.int .i64 v.slot]++(rootC v.target++([.int .i64 v.member]++([.int .u64 (v.body:Int)]++([SlV.v v.bits]++(tagC v.tag))))):=by
  simp only [oBlkC,List.drop_append,List.length_append,rootC_len,tagC_len,List.length_singleton,List.length_cons,List.length_nil]
  have eroot:∀ r:Root,(rootC r).drop 32=[]:=fun r=>List.drop_eq_nil_of_le (by rw [rootC_len];exact Nat.le_refl _)
  have etag:∀ r:Tag,(tagC r).drop 16=[]:=fun r=>List.drop_eq_nil_of_le (by rw [tagC_len];exact Nat.le_refl _)
  simp [eroot,etag,List.drop_eq_nil_of_le,rootC_len,tagC_len]
theorem oBlkC_l33 (v:OBlk):(oBlkC v)[33]? = some (.int .i64 v.slot):=by
  have h:=oBlkC_d33 v
  have h2:((oBlkC v).drop 33)[0]? = some (.int .i64 v.slot):=by rw [h];rfl
  rwa [List.getElem?_drop] at h2
theorem oBlkC_a33 (v:OBlk):(oBlkC v).toArray[33]? = some (.int .i64 v.slot):=by
  rw [List.getElem?_toArray];exact oBlkC_l33 v
theorem oBlkC_d34 (v:OBlk):(oBlkC v).drop 34=rootC v.target++([.int .i64 v.member]++([.int .u64 (v.body:Int)]++([SlV.v v.bits]++(tagC v.tag)))):=by
  simp only [oBlkC,List.drop_append,List.length_append,rootC_len,tagC_len,List.length_singleton,List.length_cons,List.length_nil]
  have eroot:∀ r:Root,(rootC r).drop 32=[]:=fun r=>List.drop_eq_nil_of_le (by rw [rootC_len];exact Nat.le_refl _)
  have etag:∀ r:Tag,(tagC r).drop 16=[]:=fun r=>List.drop_eq_nil_of_le (by rw [tagC_len];exact Nat.le_refl _)
  simp [eroot,etag,List.drop_eq_nil_of_le,rootC_len,tagC_len]
theorem oBlkC_f34 (v:OBlk):((oBlkC v).drop 34).take 32=rootC v.target:=by
  rw [oBlkC_d34]
  exact rootC_take _ _
theorem oBlkC_af34 (v:OBlk):((oBlkC v).toArray.toList.drop 34).take 32=rootC v.target:=oBlkC_f34 v
theorem oBlkC_d66 (v:OBlk):(oBlkC v).drop 66=[.int .i64 v.member]++([.int .u64 (v.body:Int)]++([SlV.v v.bits]++(tagC v.tag))):=by
  simp only [oBlkC,List.drop_append,List.length_append,rootC_len,tagC_len,List.length_singleton,List.length_cons,List.length_nil]
  have eroot:∀ r:Root,(rootC r).drop 32=[]:=fun r=>List.drop_eq_nil_of_le (by rw [rootC_len];exact Nat.le_refl _)
  have etag:∀ r:Tag,(tagC r).drop 16=[]:=fun r=>List.drop_eq_nil_of_le (by rw [tagC_len];exact Nat.le_refl _)
  simp [eroot,etag,List.drop_eq_nil_of_le,rootC_len,tagC_len]
theorem oBlkC_l66 (v:OBlk):(oBlkC v)[66]? = some (.int .i64 v.member):=by
  have h:=oBlkC_d66 v
  have h2:((oBlkC v).drop 66)[0]? = some (.int .i64 v.member):=by rw [h];rfl
  rwa [List.getElem?_drop] at h2
theorem oBlkC_a66 (v:OBlk):(oBlkC v).toArray[66]? = some (.int .i64 v.member):=by
  rw [List.getElem?_toArray];exact oBlkC_l66 v
theorem oBlkC_d67 (v:OBlk):(oBlkC v).drop 67=[.int .u64 (v.body:Int)]++([SlV.v v.bits]++(tagC v.tag)):=by
  simp only [oBlkC,List.drop_append,List.length_append,rootC_len,tagC_len,List.length_singleton,List.length_cons,List.length_nil]
  have eroot:∀ r:Root,(rootC r).drop 32=[]:=fun r=>List.drop_eq_nil_of_le (by rw [rootC_len];exact Nat.le_refl _)
  have etag:∀ r:Tag,(tagC r).drop 16=[]:=fun r=>List.drop_eq_nil_of_le (by rw [tagC_len];exact Nat.le_refl _)
  simp [eroot,etag,List.drop_eq_nil_of_le,rootC_len,tagC_len]
theorem oBlkC_l67 (v:OBlk):(oBlkC v)[67]? = some (.int .u64 (v.body:Int)):=by
  have h:=oBlkC_d67 v
  have h2:((oBlkC v).drop 67)[0]? = some (.int .u64 (v.body:Int)):=by rw [h];rfl
  rwa [List.getElem?_drop] at h2
theorem oBlkC_a67 (v:OBlk):(oBlkC v).toArray[67]? = some (.int .u64 (v.body:Int)):=by
  rw [List.getElem?_toArray];exact oBlkC_l67 v
theorem oBlkC_d68 (v:OBlk):(oBlkC v).drop 68=[SlV.v v.bits]++(tagC v.tag):=by
  simp only [oBlkC,List.drop_append,List.length_append,rootC_len,tagC_len,List.length_singleton,List.length_cons,List.length_nil]
  have eroot:∀ r:Root,(rootC r).drop 32=[]:=fun r=>List.drop_eq_nil_of_le (by rw [rootC_len];exact Nat.le_refl _)
  have etag:∀ r:Tag,(tagC r).drop 16=[]:=fun r=>List.drop_eq_nil_of_le (by rw [tagC_len];exact Nat.le_refl _)
  simp [eroot,etag,List.drop_eq_nil_of_le,rootC_len,tagC_len]
theorem oBlkC_l68 (v:OBlk):(oBlkC v)[68]? = some (SlV.v v.bits):=by
  have h:=oBlkC_d68 v
  have h2:((oBlkC v).drop 68)[0]? = some (SlV.v v.bits):=by rw [h];rfl
  rwa [List.getElem?_drop] at h2
theorem oBlkC_a68 (v:OBlk):(oBlkC v).toArray[68]? = some (SlV.v v.bits):=by
  rw [List.getElem?_toArray];exact oBlkC_l68 v
theorem oBlkC_d69 (v:OBlk):(oBlkC v).drop 69=tagC v.tag:=by
  simp only [oBlkC,List.drop_append,List.length_append,rootC_len,tagC_len,List.length_singleton,List.length_cons,List.length_nil]
  have eroot:∀ r:Root,(rootC r).drop 32=[]:=fun r=>List.drop_eq_nil_of_le (by rw [rootC_len];exact Nat.le_refl _)
  have etag:∀ r:Tag,(tagC r).drop 16=[]:=fun r=>List.drop_eq_nil_of_le (by rw [tagC_len];exact Nat.le_refl _)
  simp [eroot,etag,List.drop_eq_nil_of_le,rootC_len,tagC_len]
theorem oBlkC_f69 (v:OBlk):((oBlkC v).drop 69).take 16=tagC v.tag:=by
  rw [oBlkC_d69]
  exact tagC_take' _
theorem oBlkC_af69 (v:OBlk):((oBlkC v).toArray.toList.drop 69).take 16=tagC v.tag:=oBlkC_f69 v
instance (v:PItem):QCA (pItemC v).toArray 0 (.int .i64 v.slot):=⟨pItemC_a0 v⟩
instance (v:PItem):QCA (pItemC v).toArray 33 (.int .i64 v.peer):=⟨pItemC_a33 v⟩
instance (v:PItem):QCA (pItemC v).toArray 66 (.string (B v.text)):=⟨pItemC_a66 v⟩
instance (v:SeatR):QCA (seatRC v).toArray 32 (.int .i64 v.who):=⟨seatRC_a32 v⟩
instance (v:GShr):QCA (gShrC v).toArray 32 (.int .i64 v.stake):=⟨gShrC_a32 v⟩
instance (v:OBlk):QCA (oBlkC v).toArray 32 (.int .i64 v.kind):=⟨oBlkC_a32 v⟩
instance (v:OBlk):QCA (oBlkC v).toArray 33 (.int .i64 v.slot):=⟨oBlkC_a33 v⟩
instance (v:OBlk):QCA (oBlkC v).toArray 66 (.int .i64 v.member):=⟨oBlkC_a66 v⟩
instance (v:OBlk):QCA (oBlkC v).toArray 67 (.int .u64 (v.body:Int)):=⟨oBlkC_a67 v⟩
instance (v:OBlk):QCA (oBlkC v).toArray 68 (SlV.v v.bits):=⟨oBlkC_a68 v⟩
instance (v:PItem):QCL (pItemC v).toArray 1 32 (rootC v.root):=⟨pItemC_af1 v,by simp [pItemC_len]⟩
instance (v:PItem):QCL (pItemC v).toArray 34 32 (rootC v.par):=⟨pItemC_af34 v,by simp [pItemC_len]⟩
instance (v:SeatR):QCL (seatRC v).toArray 0 32 (rootC v.lot):=⟨seatRC_af0 v,by simp [seatRC_len]⟩
instance (v:GBlk):QCL (gBlkC v).toArray 0 32 (rootC v.root):=⟨gBlkC_af0 v,by simp [gBlkC_len]⟩
instance (v:GBlk):QCL (gBlkC v).toArray 32 32 (rootC v.parent):=⟨gBlkC_af32 v,by simp [gBlkC_len]⟩
instance (v:GShr):QCL (gShrC v).toArray 0 32 (rootC v.target):=⟨gShrC_af0 v,by simp [gShrC_len]⟩
instance (v:OBlk):QCL (oBlkC v).toArray 0 32 (rootC v.root):=⟨oBlkC_af0 v,by simp [oBlkC_len]⟩
instance (v:OBlk):QCL (oBlkC v).toArray 34 32 (rootC v.target):=⟨oBlkC_af34 v,by simp [oBlkC_len]⟩
instance (v:OBlk):QCL (oBlkC v).toArray 69 16 (tagC v.tag):=⟨oBlkC_af69 v,by simp [oBlkC_len]⟩
instance (v:PItem):QCL (pItemC v).toArray 0 67 (pItemC v):=⟨pItemC_ta v,by simp [pItemC_len]⟩
instance (v:SeatR):QCL (seatRC v).toArray 0 33 (seatRC v):=⟨seatRC_ta v,by simp [seatRC_len]⟩
instance (v:GBlk):QCL (gBlkC v).toArray 0 64 (gBlkC v):=⟨gBlkC_ta v,by simp [gBlkC_len]⟩
instance (v:GShr):QCL (gShrC v).toArray 0 33 (gShrC v):=⟨gShrC_ta v,by simp [gShrC_len]⟩
instance (v:OBlk):QCL (oBlkC v).toArray 0 85 (oBlkC v):=⟨oBlkC_ta v,by simp [oBlkC_len]⟩
def methB (P:Program) (t:Nat) (name:String):Option (Nat×Bool) :=
  match P.info? t with
  | some i=>match i.methods.find? (·.name == name) with
    | some m=>if m.path.isEmpty then m.func else none
    | none=>none
  | none=>none
section
variable {P:Program} {w0:World} {n:Nat} {f:Fr} {l:List HProp} {d:Option Tmp} {ty:TypeId} {pos:String} {aft:Array Edge} {g:Option (Nat×Bool)}
theorem methB_spec {t k:Nat} {pr:Bool} {name:String} (hm:methB P t name=some (k,pr)):∃ i m,P.info? t=some i∧i.methods.find? (·.name == name)=some m∧m.path=#[]∧m.func=some (k,pr):=by
  unfold methB at hm
  split at hm
  · rename_i i hi
    split at hm
    · rename_i m hf
      split at hm
      · rename_i hp
        exact ⟨i,m,hi,hf,by simpa using hp,hm⟩
      · cases hm
    · cases hm
  · cases hm
theorem run_methP {t k e q:Nat} {name:String} {ad:Option Addr} (hm:methB P t name=some (k,true)) (hu:P.underlying t=some (.pointer e)) (w:World):(method (q+1) t (.pointer ad) name).run P w=.ok (k,.pointer ad) w:=by
  obtain ⟨i,m,hi,hf,hp,hF⟩:=methB_spec hm
  rw [method]
  simp [typeInfo,hi,hf,hp,hF,follow,receiverAt,run_underlying hu,Place.get]
theorem depth_succ:∃ q,P.types.size+Made.depth=q+1:=⟨P.types.size+(Made.depth-1),by unfold Made.depth;omega⟩
theorem os_invP {k:Nat} {name:String} {t e:Nat} {recv:Operand} {args:Array Operand} {ats:Array TypeId} {vs:List Value} {ad:Option Addr} {R:Value→List HProp→Prop} (hm:methB P t name=some (k,true)) (hu:P.underlying t=some (.pointer e)) (hB:callB P k=true) (hr:ev f recv=.iface t (.pointer ad)) (hv:args.toList.map (ev f)=vs)
    (hc:∀ w,Sat w0 w l→Calls P k (Value.pointer ad::vs).toArray w (Ret w0 R)):OS P w0 n ⟨d,.call ⟨.invoke recv name,args,ats⟩,ty,pos,aft,g⟩ f l R:=fun a w r s=>by
  have he:args.map a.eval=vs.toArray:=by
    rw [←hv];apply Array.toList_inj.1;rw [Array.toList_map];simp only [List.toList_toArray];congr 1;funext x;exact r.eval x
  unfold callB at hB
  cases hf2:P.funcs[k]? with
  | none=>simp [hf2] at hB
  | some fn =>
    simp only [hf2,Bool.and_eq_true,Bool.not_eq_true',Option.isSome_iff_exists] at hB
    obtain ⟨h1,c,h2⟩:=hB
    have h1':¬ fn.name = "runtime.NumGoroutine":=by simpa using h1
    have hrv:a.eval recv=.iface t (.pointer ad):=(r.eval recv).trans hr
    obtain ⟨q,hq⟩:=depth_succ (P:=P)
    have hM:=run_methP (q:=q) (ad:=ad) hm hu w
    simp only [execOp,resolve,he,hrv]
    simp [invoke,callMethod,hq,hM,callFunc,hf2,h1',h2,gives]
    have:=hc w s
    refine this.mono fun e w' hq=>?_
    obtain ⟨v,l',rfl,hR,s'⟩:=hq
    exact ⟨v,rfl,l',hR,s'⟩
theorem run_methV {t k e q:Nat} {name:String} {ad:Addr} {v:Value} {w:World} (hm:methB P t name=some (k,false)) (hu:P.underlying t=some (.pointer e)) (hl:(loadVar e ad).run P w=.ok v w):(method (q+1) t (.pointer (some ad)) name).run P w=.ok (k,v) w:=by
  obtain ⟨i,m,hi,hf,hp,hF⟩:=methB_spec hm
  have hS:∀ (xt:TypeId) (s1 s2:String),Builtin.ssaWrapNilChk_ #[xt] xt #[.pointer (some ad),strVal s1,strVal s2]=pure (.pointer (some ad)):=fun _ _ _=>rfl
  rw [method]
  simp [typeInfo,hi,hf,hp,hF,follow,receiverAt,run_underlying hu,Place.get,hS,asAddr,hl]
theorem os_invV {k:Nat} (i:Nat) {name:String} {t e b j:Nat} {recv:Operand} {args:Array Operand} {ats:Array TypeId} {vs:List Value} {cs:Array Value} {T:TypeId} {fr:Nat×Nat} {rv:Value} {R:Value→List HProp→Prop} (hm:methB P t name=some (k,false)) (hu:P.underlying t=some (.pointer e)) (hT:scalarB P e=true) (hB:callB P k=true) (hl:l[i]? = some (Blk b (.cells cs T fr))) (hr:ev f recv=.iface t (.pointer (some ⟨b,j,none⟩))) (hcv:cs[j]? = some rv) (hv:args.toList.map (ev f)=vs)
    (hc:∀ w,Sat w0 w l→Calls P k (rv::vs).toArray w (Ret w0 R)):OS P w0 n ⟨d,.call ⟨.invoke recv name,args,ats⟩,ty,pos,aft,g⟩ f l R:=fun a w r s=>by
  have he:args.map a.eval=vs.toArray:=by
    rw [←hv];apply Array.toList_inj.1;rw [Array.toList_map];simp only [List.toList_toArray];congr 1;funext x;exact r.eval x
  unfold callB at hB
  cases hf2:P.funcs[k]? with
  | none=>simp [hf2] at hB
  | some fn =>
    simp only [hf2,Bool.and_eq_true,Bool.not_eq_true',Option.isSome_iff_exists] at hB
    obtain ⟨h1,c,h2⟩:=hB
    have h1':¬ fn.name = "runtime.NumGoroutine":=by simpa using h1
    have hrv:a.eval recv=.iface t (.pointer (some ⟨b,j,none⟩)):=(r.eval recv).trans hr
    have hce:w.cell? ⟨b,j,none⟩=some rv:=(cell_of_row w b j cs T fr (heap_of (M:=[]) i s hl)).trans hcv
    have hlv:(loadVar e ⟨b,j,none⟩).run P w=.ok rv w:=by simp [loadVar,Sem.run_bind,(isAgg_scalar hT w).1,load,Sem.run,hce]
    obtain ⟨q,hq⟩:=depth_succ (P:=P)
    have hM:=run_methV (q:=q) hm hu hlv
    simp only [execOp,resolve,he,hrv]
    simp [invoke,callMethod,hq,hM,callFunc,hf2,h1',h2,gives]
    have:=hc w s
    refine this.mono fun e w' hq=>?_
    obtain ⟨v,l',rfl,hR,s'⟩:=hq
    exact ⟨v,rfl,l',hR,s'⟩
theorem op_mkif {T:Nat} {x:Operand} {v:Value} {u:TypeDesc} (hu:P.underlying T=some u) (hi:(match u with | .interface _=>false | _=>true)=true) (hx:ev f x=v):OP P w0 n ⟨d,.makeInterface T x,ty,pos,aft,g⟩ f l (.iface T v):=fun M a w r s=>by
  have h2:(Instr.makeInterface T v).run P w=.ok (.iface T v) w:=by
    unfold Instr.makeInterface
    cases u<;>first | (exfalso;revert hi;simp;done) | simp [run_underlying hu]
  simp [execOp,r.eval,hx,h2]
theorem op_tassert {T t:Nat} {x:Operand} {v:Value} {u:TypeDesc} (hu:P.underlying t=some u) (hi:(match u with | .interface _=>false | _=>true)=true) (hx:ev f x=.iface t v):OP P w0 n ⟨d,.typeAssert x T t false,ty,pos,aft,g⟩ f l v:=fun M a w r s=>by
  have h2:(Instr.typeAssert (.iface t v) T t false).run P w=.ok v w:=by
    unfold Instr.typeAssert
    cases u<;>first | (exfalso;revert hi;simp;done) | simp [run_underlying hu]
  simp [execOp,r.eval,hx,h2]
theorem op_quoe {T T':TypeId} {x y:Operand} {a c:Int} (hx:ev f x=.int .i64 a) (hy:ev f y=.int .i64 2) (h:a.tdiv 2=c) (h1:-9223372036854775808≤c) (h2:c≤9223372036854775807):OP P w0 n ⟨d,.binOp .quo T x y T',ty,pos,aft,g⟩ f l (.int .i64 c):=by
  have:=op_quow (P:=P) (w0:=w0) (n:=n) (f:=f) (l:=l) (d:=d) (ty:=ty) (pos:=pos) (aft:=aft) (g:=g) (T:=T) (T':=T') hx hy (by decide)
  rwa [h,wrap_i64 h1 h2] at this
theorem op_adde {T T':TypeId} {x y:Operand} {a b c:Int} (hx:ev f x=.int .i64 a) (hy:ev f y=.int .i64 b) (h:a+b=c) (h1:-9223372036854775808≤c) (h2:c≤9223372036854775807):OP P w0 n ⟨d,.binOp .add T x y T',ty,pos,aft,g⟩ f l (.int .i64 c):=by
  have:=op_addw (P:=P) (w0:=w0) (n:=n) (f:=f) (l:=l) (d:=d) (ty:=ty) (pos:=pos) (aft:=aft) (g:=g) (T:=T) (T':=T') hx hy
  rwa [h,wrap_i64 h1 h2] at this
theorem op_sube {T T':TypeId} {x y:Operand} {a b c:Int} (hx:ev f x=.int .i64 a) (hy:ev f y=.int .i64 b) (h:a-b=c) (h1:-9223372036854775808≤c) (h2:c≤9223372036854775807):OP P w0 n ⟨d,.binOp .sub T x y T',ty,pos,aft,g⟩ f l (.int .i64 c):=by
  have:=op_subw (P:=P) (w0:=w0) (n:=n) (f:=f) (l:=l) (d:=d) (ty:=ty) (pos:=pos) (aft:=aft) (g:=g) (T:=T) (T':=T') hx hy
  rwa [h,wrap_i64 h1 h2] at this
theorem op_mule {T T':TypeId} {x y:Operand} {a b c:Int} (hx:ev f x=.int .i64 a) (hy:ev f y=.int .i64 b) (h:a*b=c) (h1:-9223372036854775808≤c) (h2:c≤9223372036854775807):OP P w0 n ⟨d,.binOp .mul T x y T',ty,pos,aft,g⟩ f l (.int .i64 c):=by
  have:=op_mulw (P:=P) (w0:=w0) (n:=n) (f:=f) (l:=l) (d:=d) (ty:=ty) (pos:=pos) (aft:=aft) (g:=g) (T:=T) (T':=T') hx hy
  rwa [h,wrap_i64 h1 h2] at this
end
open Go.Proofs
theorem a1_146:arr1B Tryz.prog 146=some 8:=by kernel_rfl
theorem a1_150:arr1B Tryz.prog 150=some 64:=by kernel_rfl
theorem a1_35:arr1B Tryz.prog 35=some 32:=by kernel_rfl
theorem a1_350:arr1B Tryz.prog 350=some 64:=by kernel_rfl
theorem a1_44:arr1B Tryz.prog 44=some 16:=by kernel_rfl
theorem ag_120:aggB Tryz.prog 120=some 2:=by kernel_rfl
theorem ag_125:aggB Tryz.prog 125=some 64:=by kernel_rfl
theorem ag_146:aggB Tryz.prog 146=some 8:=by kernel_rfl
theorem ag_150:aggB Tryz.prog 150=some 64:=by kernel_rfl
theorem ag_159:aggB Tryz.prog 159=some 67:=by kernel_rfl
theorem ag_169:aggB Tryz.prog 169=some 34:=by kernel_rfl
theorem ag_239:aggB Tryz.prog 239=some 2:=by kernel_rfl
theorem ag_24:aggB Tryz.prog 24=some 12:=by kernel_rfl
theorem ag_243:aggB Tryz.prog 243=some 33:=by kernel_rfl
theorem ag_289:aggB Tryz.prog 289=some 85:=by kernel_rfl
theorem ag_305:aggB Tryz.prog 305=some 33:=by kernel_rfl
theorem ag_31:aggB Tryz.prog 31=some 2:=by kernel_rfl
theorem ag_35:aggB Tryz.prog 35=some 32:=by kernel_rfl
theorem ag_44:aggB Tryz.prog 44=some 16:=by kernel_rfl
theorem ag_46:aggB Tryz.prog 46=some 53:=by kernel_rfl
theorem ag_64:aggB Tryz.prog 64=some 2:=by kernel_rfl
theorem ag_70:aggB Tryz.prog 70=some 6:=by kernel_rfl
theorem ag_80:aggB Tryz.prog 80=some 4:=by kernel_rfl
theorem ag_88:aggB Tryz.prog 88=some 34:=by kernel_rfl
theorem arp_146:arrpB Tryz.prog 146=some 8:=by kernel_rfl
theorem bB_103:buildB Tryz.prog 103=some ([.slice none 0 0,.int .i64 0,.int .i64 0,.int .i64 0,.int .i64 0,.int .i64 0,.int .i64 0,.int .i64 0,.int .i64 0,.int .i64 0,.int .i64 0,.int .i64 0,.pointer none,.pointer none,.pointer none],[(0,12),(12,1),(13,1),(14,1)]):=by kernel_rfl
theorem bB_108:buildB Tryz.prog 108=some ([.slice none 0 0,.map none,.int .i64 0],[(0,1),(1,1),(2,1)]):=by kernel_rfl
theorem bB_111:buildB Tryz.prog 111=some ([.pointer none],[(0,1)]):=by kernel_rfl
theorem bB_125:buildB Tryz.prog 125=some (gBlkC GBlk.zero,[(0,32),(32,32)]):=by kernel_rfl
theorem bB_144:buildB Tryz.prog 144=some ([.slice none 0 0,.int .i64 0,.int .i64 0,.int .i64 0,.int .i64 0,.int .i64 0,.int .i64 0,.int .i64 0,.int .i64 0,.int .i64 0,.int .i64 0,.int .i64 0,.pointer none,.pointer none,.pointer none,.pointer none,.pointer none,.int .i64 0,.bool false,.bool false],[(0,12),(12,1),(13,1),(14,1),(15,1),(16,1),(17,1),(18,1),(19,1)]):=by kernel_rfl
theorem bB_154:buildB Tryz.prog 154=some ([.int .i64 0,.int .i64 0],[(0,1),(1,1)]):=by kernel_rfl
theorem bB_157:buildB Tryz.prog 157=some ([.map none,.int .i64 0,.int .i64 0,.int .i64 0,.int .i64 0],[(0,1),(1,1),(2,1),(3,1),(4,1)]):=by kernel_rfl
theorem bB_159:buildB Tryz.prog 159=some (pItemC PItem.zero,[(0,1),(1,32),(33,1),(34,32),(66,1)]):=by kernel_rfl
theorem bB_163:buildB Tryz.prog 163=some ([.pointer none],[(0,1)]):=by kernel_rfl
theorem bB_169:buildB Tryz.prog 169=some (nodeC Node.zero,[(0,32),(32,1),(33,1)]):=by kernel_rfl
theorem bB_186:buildB Tryz.prog 186=some ([.slice none 0 0,.int .i64 0,.int .i64 0],[(0,1),(1,1),(2,1)]):=by kernel_rfl
theorem bB_205:buildB Tryz.prog 205=some ([.int .i64 0,.slice none 0 0,.slice none 0 0,.map none],[(0,1),(1,1),(2,1),(3,1)]):=by kernel_rfl
theorem bB_214:buildB Tryz.prog 214=some ([.slice none 0 0,.int .i64 0,.int .i64 0,.int .i64 0,.int .i64 0,.int .i64 0,.int .i64 0,.int .i64 0,.int .i64 0,.int .i64 0,.int .i64 0,.int .i64 0,.pointer none,.pointer none],[(0,12),(12,1),(13,1)]):=by kernel_rfl
theorem bB_217:buildB Tryz.prog 217=some ([.slice none 0 0,.int .i64 0,.int .i64 0],[(0,1),(1,1),(2,1)]):=by kernel_rfl
theorem bB_219:buildB Tryz.prog 219=some ([.slice none 0 0,.slice none 0 0,.int .i64 0,.int .i64 0,.int .i64 0,.int .i64 0],[(0,1),(1,1),(2,1),(3,1),(4,1),(5,1)]):=by kernel_rfl
theorem bB_221:buildB Tryz.prog 221=some ([.int .i64 0,.int .i64 0],[(0,1),(1,1)]):=by kernel_rfl
theorem bB_24:buildB Tryz.prog 24=some (cfgC Cfg.zero,[(0,1),(1,1),(2,1),(3,1),(4,1),(5,1),(6,1),(7,1),(8,1),(9,1),(10,1),(11,1)]):=by kernel_rfl
theorem bB_243:buildB Tryz.prog 243=some (deltaC Delta.zero,[(0,32),(32,1)]):=by kernel_rfl
theorem bB_251:buildB Tryz.prog 251=some ([.pointer none,.slice none 0 0,.slice none 0 0,.slice none 0 0,.slice none 0 0],[(0,1),(1,1),(2,1),(3,1),(4,1)]):=by kernel_rfl
theorem bB_259:buildB Tryz.prog 259=some ([.slice none 0 0,.slice none 0 0,.slice none 0 0,.int .i64 0],[(0,1),(1,1),(2,1),(3,1)]):=by kernel_rfl
theorem bB_262:buildB Tryz.prog 262=some ([.int .i64 0,.int .i64 0,.slice none 0 0,.slice none 0 0,.slice none 0 0,.slice none 0 0],[(0,1),(1,1),(2,1),(3,1),(4,1),(5,1)]):=by kernel_rfl
theorem bB_274:buildB Tryz.prog 274=some ([.string ⟨#[]⟩,.bool false],[(0,1),(1,1)]):=by kernel_rfl
theorem bB_295:buildB Tryz.prog 295=some (stC St.zero,[(0,8),(8,1),(9,1)]):=by kernel_rfl
theorem bB_305:buildB Tryz.prog 305=some (seatRC SeatR.zero,[(0,32),(32,1)]):=by kernel_rfl
theorem bB_31:buildB Tryz.prog 31=some ([.pointer none,.pointer none],[(0,1),(1,1)]):=by kernel_rfl
theorem bB_46:buildB Tryz.prog 46=some (msgC Msg.zero,[(0,1),(1,1),(2,32),(34,1),(35,1),(36,1),(37,16)]):=by kernel_rfl
theorem bB_64:buildB Tryz.prog 64=some (valC Val.zero,[(0,1),(1,1)]):=by kernel_rfl
theorem bB_70:buildB Tryz.prog 70=some ([.int .i64 0,.int .i64 0,.int .i64 0,.int .i64 0,.int .i64 0,.int .i64 0],[(0,1),(1,1),(2,1),(3,1),(4,1),(5,1)]):=by kernel_rfl
theorem bB_80:buildB Tryz.prog 80=some ([.pointer none,.pointer none,.pointer none,.pointer none],[(0,1),(1,1),(2,1),(3,1)]):=by kernel_rfl
theorem bB_82:buildB Tryz.prog 82=some ([.slice none 0 0,.int .i64 0,.int .i64 0,.int .i64 0,.int .i64 0,.int .i64 0,.int .i64 0,.int .i64 0,.int .i64 0,.int .i64 0,.int .i64 0,.int .i64 0,.pointer none,.pointer none,.pointer none,.pointer none,.pointer none,.int .i64 0],[(0,12),(12,1),(13,4),(17,1)]):=by kernel_rfl
theorem bB_88:buildB Tryz.prog 88=some (voteC Vote.zero,[(0,1),(1,1),(2,32)]):=by kernel_rfl
theorem bBo_289:buildB Tryz.prog 289=some (oBlkC OBlk.zero,[(0,32),(32,53)]):=by kernel_rfl
theorem ba_146:buildaB Tryz.prog 146=some [.int .u32 0,.int .u32 0,.int .u32 0,.int .u32 0,.int .u32 0,.int .u32 0,.int .u32 0,.int .u32 0]:=by kernel_rfl
theorem ba_150:buildaB Tryz.prog 150=some [.int .u32 0,.int .u32 0,.int .u32 0,.int .u32 0,.int .u32 0,.int .u32 0,.int .u32 0,.int .u32 0,.int .u32 0,.int .u32 0,.int .u32 0,.int .u32 0,.int .u32 0,.int .u32 0,.int .u32 0,.int .u32 0,.int .u32 0,.int .u32 0,.int .u32 0,.int .u32 0,.int .u32 0,.int .u32 0,.int .u32 0,.int .u32 0,.int .u32 0,.int .u32 0,.int .u32 0,.int .u32 0,.int .u32 0,.int .u32 0,.int .u32 0,.int .u32 0,.int .u32 0,.int .u32 0,.int .u32 0,.int .u32 0,.int .u32 0,.int .u32 0,.int .u32 0,.int .u32 0,.int .u32 0,.int .u32 0,.int .u32 0,.int .u32 0,.int .u32 0,.int .u32 0,.int .u32 0,.int .u32 0,.int .u32 0,.int .u32 0,.int .u32 0,.int .u32 0,.int .u32 0,.int .u32 0,.int .u32 0,.int .u32 0,.int .u32 0,.int .u32 0,.int .u32 0,.int .u32 0,.int .u32 0,.int .u32 0,.int .u32 0,.int .u32 0]:=by kernel_rfl
theorem cb_10:callB Tryz.prog 10=true:=by kernel_rfl
theorem cb_100:callB Tryz.prog 100=true:=by kernel_rfl
theorem cb_101:callB Tryz.prog 101=true:=by kernel_rfl
theorem cb_102:callB Tryz.prog 102=true:=by kernel_rfl
theorem cb_103:callB Tryz.prog 103=true:=by kernel_rfl
theorem cb_104:callB Tryz.prog 104=true:=by kernel_rfl
theorem cb_105:callB Tryz.prog 105=true:=by kernel_rfl
theorem cb_106:callB Tryz.prog 106=true:=by kernel_rfl
theorem cb_107:callB Tryz.prog 107=true:=by kernel_rfl
theorem cb_108:callB Tryz.prog 108=true:=by kernel_rfl
theorem cb_109:callB Tryz.prog 109=true:=by kernel_rfl
theorem cb_11:callB Tryz.prog 11=true:=by kernel_rfl
theorem cb_110:callB Tryz.prog 110=true:=by kernel_rfl
theorem cb_111:callB Tryz.prog 111=true:=by kernel_rfl
theorem cb_112:callB Tryz.prog 112=true:=by kernel_rfl
theorem cb_113:callB Tryz.prog 113=true:=by kernel_rfl
theorem cb_114:callB Tryz.prog 114=true:=by kernel_rfl
theorem cb_115:callB Tryz.prog 115=true:=by kernel_rfl
theorem cb_116:callB Tryz.prog 116=true:=by kernel_rfl
theorem cb_117:callB Tryz.prog 117=true:=by kernel_rfl
theorem cb_118:callB Tryz.prog 118=true:=by kernel_rfl
theorem cb_119:callB Tryz.prog 119=true:=by kernel_rfl
theorem cb_12:callB Tryz.prog 12=true:=by kernel_rfl
theorem cb_120:callB Tryz.prog 120=true:=by kernel_rfl
theorem cb_121:callB Tryz.prog 121=true:=by kernel_rfl
theorem cb_122:callB Tryz.prog 122=true:=by kernel_rfl
theorem cb_123:callB Tryz.prog 123=true:=by kernel_rfl
theorem cb_124:callB Tryz.prog 124=true:=by kernel_rfl
theorem cb_125:callB Tryz.prog 125=true:=by kernel_rfl
theorem cb_126:callB Tryz.prog 126=true:=by kernel_rfl
theorem cb_127:callB Tryz.prog 127=true:=by kernel_rfl
theorem cb_128:callB Tryz.prog 128=true:=by kernel_rfl
theorem cb_129:callB Tryz.prog 129=true:=by kernel_rfl
theorem cb_13:callB Tryz.prog 13=true:=by kernel_rfl
theorem cb_130:callB Tryz.prog 130=true:=by kernel_rfl
theorem cb_131:callB Tryz.prog 131=true:=by kernel_rfl
theorem cb_132:callB Tryz.prog 132=true:=by kernel_rfl
theorem cb_133:callB Tryz.prog 133=true:=by kernel_rfl
theorem cb_134:callB Tryz.prog 134=true:=by kernel_rfl
theorem cb_135:callB Tryz.prog 135=true:=by kernel_rfl
theorem cb_136:callB Tryz.prog 136=true:=by kernel_rfl
theorem cb_137:callB Tryz.prog 137=true:=by kernel_rfl
theorem cb_138:callB Tryz.prog 138=true:=by kernel_rfl
theorem cb_139:callB Tryz.prog 139=true:=by kernel_rfl
theorem cb_14:callB Tryz.prog 14=true:=by kernel_rfl
theorem cb_140:callB Tryz.prog 140=true:=by kernel_rfl
theorem cb_141:callB Tryz.prog 141=true:=by kernel_rfl
theorem cb_142:callB Tryz.prog 142=true:=by kernel_rfl
theorem cb_143:callB Tryz.prog 143=true:=by kernel_rfl
theorem cb_144:callB Tryz.prog 144=true:=by kernel_rfl
theorem cb_145:callB Tryz.prog 145=true:=by kernel_rfl
theorem cb_146:callB Tryz.prog 146=true:=by kernel_rfl
theorem cb_147:callB Tryz.prog 147=true:=by kernel_rfl
theorem cb_148:callB Tryz.prog 148=true:=by kernel_rfl
theorem cb_15:callB Tryz.prog 15=true:=by kernel_rfl
theorem cb_152:callB Tryz.prog 152=true:=by kernel_rfl
theorem cb_154:callB Tryz.prog 154=true:=by kernel_rfl
theorem cb_155:callB Tryz.prog 155=true:=by kernel_rfl
theorem cb_157:callB Tryz.prog 157=true:=by kernel_rfl
theorem cb_158:callB Tryz.prog 158=true:=by kernel_rfl
theorem cb_159:callB Tryz.prog 159=true:=by kernel_rfl
theorem cb_16:callB Tryz.prog 16=true:=by kernel_rfl
theorem cb_160:callB Tryz.prog 160=true:=by kernel_rfl
theorem cb_161:callB Tryz.prog 161=true:=by kernel_rfl
theorem cb_162:callB Tryz.prog 162=true:=by kernel_rfl
theorem cb_164:callB Tryz.prog 164=true:=by kernel_rfl
theorem cb_165:callB Tryz.prog 165=true:=by kernel_rfl
theorem cb_166:callB Tryz.prog 166=true:=by kernel_rfl
theorem cb_167:callB Tryz.prog 167=true:=by kernel_rfl
theorem cb_168:callB Tryz.prog 168=true:=by kernel_rfl
theorem cb_169:callB Tryz.prog 169=true:=by kernel_rfl
theorem cb_17:callB Tryz.prog 17=true:=by kernel_rfl
theorem cb_170:callB Tryz.prog 170=true:=by kernel_rfl
theorem cb_171:callB Tryz.prog 171=true:=by kernel_rfl
theorem cb_172:callB Tryz.prog 172=true:=by kernel_rfl
theorem cb_174:callB Tryz.prog 174=true:=by kernel_rfl
theorem cb_175:callB Tryz.prog 175=true:=by kernel_rfl
theorem cb_176:callB Tryz.prog 176=true:=by kernel_rfl
theorem cb_177:callB Tryz.prog 177=true:=by kernel_rfl
theorem cb_178:callB Tryz.prog 178=true:=by kernel_rfl
theorem cb_18:callB Tryz.prog 18=true:=by kernel_rfl
theorem cb_183:callB Tryz.prog 183=true:=by kernel_rfl
theorem cb_184:callB Tryz.prog 184=true:=by kernel_rfl
theorem cb_186:callB Tryz.prog 186=true:=by kernel_rfl
theorem cb_187:callB Tryz.prog 187=true:=by kernel_rfl
theorem cb_188:callB Tryz.prog 188=true:=by kernel_rfl
theorem cb_189:callB Tryz.prog 189=true:=by kernel_rfl
theorem cb_19:callB Tryz.prog 19=true:=by kernel_rfl
theorem cb_190:callB Tryz.prog 190=true:=by kernel_rfl
theorem cb_191:callB Tryz.prog 191=true:=by kernel_rfl
theorem cb_192:callB Tryz.prog 192=true:=by kernel_rfl
theorem cb_193:callB Tryz.prog 193=true:=by kernel_rfl
theorem cb_194:callB Tryz.prog 194=true:=by kernel_rfl
theorem cb_195:callB Tryz.prog 195=true:=by kernel_rfl
theorem cb_196:callB Tryz.prog 196=true:=by kernel_rfl
theorem cb_197:callB Tryz.prog 197=true:=by kernel_rfl
theorem cb_20:callB Tryz.prog 20=true:=by kernel_rfl
theorem cb_21:callB Tryz.prog 21=true:=by kernel_rfl
theorem cb_218:callB Tryz.prog 218=true:=by kernel_rfl
theorem cb_219:callB Tryz.prog 219=true:=by kernel_rfl
theorem cb_22:callB Tryz.prog 22=true:=by kernel_rfl
theorem cb_220:callB Tryz.prog 220=true:=by kernel_rfl
theorem cb_221:callB Tryz.prog 221=true:=by kernel_rfl
theorem cb_222:callB Tryz.prog 222=true:=by kernel_rfl
theorem cb_223:callB Tryz.prog 223=true:=by kernel_rfl
theorem cb_229:callB Tryz.prog 229=true:=by kernel_rfl
theorem cb_23:callB Tryz.prog 23=true:=by kernel_rfl
theorem cb_24:callB Tryz.prog 24=true:=by kernel_rfl
theorem cb_241:callB Tryz.prog 241=true:=by kernel_rfl
theorem cb_25:callB Tryz.prog 25=true:=by kernel_rfl
theorem cb_26:callB Tryz.prog 26=true:=by kernel_rfl
theorem cb_267:callB Tryz.prog 267=true:=by kernel_rfl
theorem cb_27:callB Tryz.prog 27=true:=by kernel_rfl
theorem cb_275:callB Tryz.prog 275=true:=by kernel_rfl
theorem cb_276:callB Tryz.prog 276=true:=by kernel_rfl
theorem cb_279:callB Tryz.prog 279=true:=by kernel_rfl
theorem cb_28:callB Tryz.prog 28=true:=by kernel_rfl
theorem cb_29:callB Tryz.prog 29=true:=by kernel_rfl
theorem cb_32:callB Tryz.prog 32=true:=by kernel_rfl
theorem cb_33:callB Tryz.prog 33=true:=by kernel_rfl
theorem cb_34:callB Tryz.prog 34=true:=by kernel_rfl
theorem cb_35:callB Tryz.prog 35=true:=by kernel_rfl
theorem cb_36:callB Tryz.prog 36=true:=by kernel_rfl
theorem cb_37:callB Tryz.prog 37=true:=by kernel_rfl
theorem cb_38:callB Tryz.prog 38=true:=by kernel_rfl
theorem cb_39:callB Tryz.prog 39=true:=by kernel_rfl
theorem cb_4:callB Tryz.prog 4=true:=by kernel_rfl
theorem cb_40:callB Tryz.prog 40=true:=by kernel_rfl
theorem cb_41:callB Tryz.prog 41=true:=by kernel_rfl
theorem cb_42:callB Tryz.prog 42=true:=by kernel_rfl
theorem cb_43:callB Tryz.prog 43=true:=by kernel_rfl
theorem cb_44:callB Tryz.prog 44=true:=by kernel_rfl
theorem cb_45:callB Tryz.prog 45=true:=by kernel_rfl
theorem cb_46:callB Tryz.prog 46=true:=by kernel_rfl
theorem cb_47:callB Tryz.prog 47=true:=by kernel_rfl
theorem cb_48:callB Tryz.prog 48=true:=by kernel_rfl
theorem cb_49:callB Tryz.prog 49=true:=by kernel_rfl
theorem cb_5:callB Tryz.prog 5=true:=by kernel_rfl
theorem cb_50:callB Tryz.prog 50=true:=by kernel_rfl
theorem cb_51:callB Tryz.prog 51=true:=by kernel_rfl
theorem cb_52:callB Tryz.prog 52=true:=by kernel_rfl
theorem cb_53:callB Tryz.prog 53=true:=by kernel_rfl
theorem cb_54:callB Tryz.prog 54=true:=by kernel_rfl
theorem cb_55:callB Tryz.prog 55=true:=by kernel_rfl
theorem cb_56:callB Tryz.prog 56=true:=by kernel_rfl
theorem cb_57:callB Tryz.prog 57=true:=by kernel_rfl
theorem cb_58:callB Tryz.prog 58=true:=by kernel_rfl
theorem cb_59:callB Tryz.prog 59=true:=by kernel_rfl
theorem cb_6:callB Tryz.prog 6=true:=by kernel_rfl
theorem cb_60:callB Tryz.prog 60=true:=by kernel_rfl
theorem cb_61:callB Tryz.prog 61=true:=by kernel_rfl
theorem cb_62:callB Tryz.prog 62=true:=by kernel_rfl
theorem cb_63:callB Tryz.prog 63=true:=by kernel_rfl
theorem cb_64:callB Tryz.prog 64=true:=by kernel_rfl
theorem cb_65:callB Tryz.prog 65=true:=by kernel_rfl
theorem cb_66:callB Tryz.prog 66=true:=by kernel_rfl
theorem cb_67:callB Tryz.prog 67=true:=by kernel_rfl
theorem cb_68:callB Tryz.prog 68=true:=by kernel_rfl
theorem cb_69:callB Tryz.prog 69=true:=by kernel_rfl
theorem cb_7:callB Tryz.prog 7=true:=by kernel_rfl
theorem cb_70:callB Tryz.prog 70=true:=by kernel_rfl
theorem cb_72:callB Tryz.prog 72=true:=by kernel_rfl
theorem cb_73:callB Tryz.prog 73=true:=by kernel_rfl
theorem cb_74:callB Tryz.prog 74=true:=by kernel_rfl
theorem cb_75:callB Tryz.prog 75=true:=by kernel_rfl
theorem cb_76:callB Tryz.prog 76=true:=by kernel_rfl
theorem cb_79:callB Tryz.prog 79=true:=by kernel_rfl
theorem cb_8:callB Tryz.prog 8=true:=by kernel_rfl
theorem cb_80:callB Tryz.prog 80=true:=by kernel_rfl
theorem cb_81:callB Tryz.prog 81=true:=by kernel_rfl
theorem cb_82:callB Tryz.prog 82=true:=by kernel_rfl
theorem cb_83:callB Tryz.prog 83=true:=by kernel_rfl
theorem cb_84:callB Tryz.prog 84=true:=by kernel_rfl
theorem cb_85:callB Tryz.prog 85=true:=by kernel_rfl
theorem cb_86:callB Tryz.prog 86=true:=by kernel_rfl
theorem cb_89:callB Tryz.prog 89=true:=by kernel_rfl
theorem cb_9:callB Tryz.prog 9=true:=by kernel_rfl
theorem cb_90:callB Tryz.prog 90=true:=by kernel_rfl
theorem cb_91:callB Tryz.prog 91=true:=by kernel_rfl
theorem cb_92:callB Tryz.prog 92=true:=by kernel_rfl
theorem cb_93:callB Tryz.prog 93=true:=by kernel_rfl
theorem cb_94:callB Tryz.prog 94=true:=by kernel_rfl
theorem cb_95:callB Tryz.prog 95=true:=by kernel_rfl
theorem cb_96:callB Tryz.prog 96=true:=by kernel_rfl
theorem cb_97:callB Tryz.prog 97=true:=by kernel_rfl
theorem cb_98:callB Tryz.prog 98=true:=by kernel_rfl
theorem cb_99:callB Tryz.prog 99=true:=by kernel_rfl
theorem ci_10:initB Tryz.prog 10=true:=by kernel_rfl
theorem ci_104:initB Tryz.prog 104=true:=by kernel_rfl
theorem ci_123:initB Tryz.prog 123=true:=by kernel_rfl
theorem ci_130:initB Tryz.prog 130=true:=by kernel_rfl
theorem ci_132:initB Tryz.prog 132=true:=by kernel_rfl
theorem ci_133:initB Tryz.prog 133=true:=by kernel_rfl
theorem ci_14:initB Tryz.prog 14=true:=by kernel_rfl
theorem ci_15:initB Tryz.prog 15=true:=by kernel_rfl
theorem ci_157:initB Tryz.prog 157=true:=by kernel_rfl
theorem ci_16:initB Tryz.prog 16=true:=by kernel_rfl
theorem ci_165:initB Tryz.prog 165=true:=by kernel_rfl
theorem ci_17:initB Tryz.prog 17=true:=by kernel_rfl
theorem ci_170:initB Tryz.prog 170=true:=by kernel_rfl
theorem ci_171:initB Tryz.prog 171=true:=by kernel_rfl
theorem ci_18:initB Tryz.prog 18=true:=by kernel_rfl
theorem ci_187:initB Tryz.prog 187=true:=by kernel_rfl
theorem ci_19:initB Tryz.prog 19=true:=by kernel_rfl
theorem ci_191:initB Tryz.prog 191=true:=by kernel_rfl
theorem ci_29:initB Tryz.prog 29=true:=by kernel_rfl
theorem ci_33:initB Tryz.prog 33=true:=by kernel_rfl
theorem ci_41:initB Tryz.prog 41=true:=by kernel_rfl
theorem ci_43:initB Tryz.prog 43=true:=by kernel_rfl
theorem ci_51:initB Tryz.prog 51=true:=by kernel_rfl
theorem ci_7:initB Tryz.prog 7=true:=by kernel_rfl
theorem ci_75:initB Tryz.prog 75=true:=by kernel_rfl
theorem ci_95:initB Tryz.prog 95=true:=by kernel_rfl
theorem fld_103_0:fieldB Tryz.prog 103 0=some 0:=by kernel_rfl
theorem fld_103_1:fieldB Tryz.prog 103 1=some 12:=by kernel_rfl
theorem fld_103_2:fieldB Tryz.prog 103 2=some 13:=by kernel_rfl
theorem fld_103_3:fieldB Tryz.prog 103 3=some 14:=by kernel_rfl
theorem fld_108_0:fieldB Tryz.prog 108 0=some 0:=by kernel_rfl
theorem fld_108_1:fieldB Tryz.prog 108 1=some 1:=by kernel_rfl
theorem fld_108_2:fieldB Tryz.prog 108 2=some 2:=by kernel_rfl
theorem fld_111_0:fieldB Tryz.prog 111 0=some 0:=by kernel_rfl
theorem fld_120_0:fieldB Tryz.prog 120 0=some 0:=by kernel_rfl
theorem fld_120_1:fieldB Tryz.prog 120 1=some 1:=by kernel_rfl
theorem fld_125_0:fieldB Tryz.prog 125 0=some 0:=by kernel_rfl
theorem fld_125_1:fieldB Tryz.prog 125 1=some 32:=by kernel_rfl
theorem fld_154_0:fieldB Tryz.prog 154 0=some 0:=by kernel_rfl
theorem fld_154_1:fieldB Tryz.prog 154 1=some 1:=by kernel_rfl
theorem fld_157_0:fieldB Tryz.prog 157 0=some 0:=by kernel_rfl
theorem fld_157_2:fieldB Tryz.prog 157 2=some 2:=by kernel_rfl
theorem fld_159_0:fieldB Tryz.prog 159 0=some 0:=by kernel_rfl
theorem fld_159_1:fieldB Tryz.prog 159 1=some 1:=by kernel_rfl
theorem fld_159_2:fieldB Tryz.prog 159 2=some 33:=by kernel_rfl
theorem fld_159_3:fieldB Tryz.prog 159 3=some 34:=by kernel_rfl
theorem fld_159_4:fieldB Tryz.prog 159 4=some 66:=by kernel_rfl
theorem fld_163_0:fieldB Tryz.prog 163 0=some 0:=by kernel_rfl
theorem fld_169_0:fieldB Tryz.prog 169 0=some 0:=by kernel_rfl
theorem fld_169_1:fieldB Tryz.prog 169 1=some 32:=by kernel_rfl
theorem fld_169_2:fieldB Tryz.prog 169 2=some 33:=by kernel_rfl
theorem fld_186_0:fieldB Tryz.prog 186 0=some 0:=by kernel_rfl
theorem fld_186_1:fieldB Tryz.prog 186 1=some 1:=by kernel_rfl
theorem fld_186_2:fieldB Tryz.prog 186 2=some 2:=by kernel_rfl
theorem fld_205_0:fieldB Tryz.prog 205 0=some 0:=by kernel_rfl
theorem fld_205_1:fieldB Tryz.prog 205 1=some 1:=by kernel_rfl
theorem fld_205_2:fieldB Tryz.prog 205 2=some 2:=by kernel_rfl
theorem fld_205_3:fieldB Tryz.prog 205 3=some 3:=by kernel_rfl
theorem fld_239_1:fieldB Tryz.prog 239 1=some 1:=by kernel_rfl
theorem fld_243_0:fieldB Tryz.prog 243 0=some 0:=by kernel_rfl
theorem fld_243_1:fieldB Tryz.prog 243 1=some 32:=by kernel_rfl
theorem fld_24_0:fieldB Tryz.prog 24 0=some 0:=by kernel_rfl
theorem fld_24_1:fieldB Tryz.prog 24 1=some 1:=by kernel_rfl
theorem fld_24_10:fieldB Tryz.prog 24 10=some 10:=by kernel_rfl
theorem fld_24_11:fieldB Tryz.prog 24 11=some 11:=by kernel_rfl
theorem fld_24_2:fieldB Tryz.prog 24 2=some 2:=by kernel_rfl
theorem fld_24_3:fieldB Tryz.prog 24 3=some 3:=by kernel_rfl
theorem fld_24_4:fieldB Tryz.prog 24 4=some 4:=by kernel_rfl
theorem fld_24_5:fieldB Tryz.prog 24 5=some 5:=by kernel_rfl
theorem fld_24_6:fieldB Tryz.prog 24 6=some 6:=by kernel_rfl
theorem fld_24_7:fieldB Tryz.prog 24 7=some 7:=by kernel_rfl
theorem fld_24_8:fieldB Tryz.prog 24 8=some 8:=by kernel_rfl
theorem fld_24_9:fieldB Tryz.prog 24 9=some 9:=by kernel_rfl
theorem fld_251_0:fieldB Tryz.prog 251 0=some 0:=by kernel_rfl
theorem fld_251_1:fieldB Tryz.prog 251 1=some 1:=by kernel_rfl
theorem fld_251_2:fieldB Tryz.prog 251 2=some 2:=by kernel_rfl
theorem fld_251_3:fieldB Tryz.prog 251 3=some 3:=by kernel_rfl
theorem fld_251_4:fieldB Tryz.prog 251 4=some 4:=by kernel_rfl
theorem fld_274_0:fieldB Tryz.prog 274 0=some 0:=by kernel_rfl
theorem fld_274_1:fieldB Tryz.prog 274 1=some 1:=by kernel_rfl
theorem fld_289_0:fieldB Tryz.prog 289 0=some 0:=by kernel_rfl
theorem fld_289_1:fieldB Tryz.prog 289 1=some 32:=by kernel_rfl
theorem fld_295_0:fieldB Tryz.prog 295 0=some 0:=by kernel_rfl
theorem fld_295_1:fieldB Tryz.prog 295 1=some 8:=by kernel_rfl
theorem fld_295_2:fieldB Tryz.prog 295 2=some 9:=by kernel_rfl
theorem fld_305_0:fieldB Tryz.prog 305 0=some 0:=by kernel_rfl
theorem fld_305_1:fieldB Tryz.prog 305 1=some 32:=by kernel_rfl
theorem fld_31_0:fieldB Tryz.prog 31 0=some 0:=by kernel_rfl
theorem fld_46_0:fieldB Tryz.prog 46 0=some 0:=by kernel_rfl
theorem fld_46_1:fieldB Tryz.prog 46 1=some 1:=by kernel_rfl
theorem fld_46_2:fieldB Tryz.prog 46 2=some 2:=by kernel_rfl
theorem fld_46_3:fieldB Tryz.prog 46 3=some 34:=by kernel_rfl
theorem fld_46_4:fieldB Tryz.prog 46 4=some 35:=by kernel_rfl
theorem fld_46_5:fieldB Tryz.prog 46 5=some 36:=by kernel_rfl
theorem fld_46_6:fieldB Tryz.prog 46 6=some 37:=by kernel_rfl
theorem fld_64_0:fieldB Tryz.prog 64 0=some 0:=by kernel_rfl
theorem fld_64_1:fieldB Tryz.prog 64 1=some 1:=by kernel_rfl
theorem fld_80_0:fieldB Tryz.prog 80 0=some 0:=by kernel_rfl
theorem fld_80_1:fieldB Tryz.prog 80 1=some 1:=by kernel_rfl
theorem fld_80_2:fieldB Tryz.prog 80 2=some 2:=by kernel_rfl
theorem fld_80_3:fieldB Tryz.prog 80 3=some 3:=by kernel_rfl
theorem fld_82_0:fieldB Tryz.prog 82 0=some 0:=by kernel_rfl
theorem fld_82_1:fieldB Tryz.prog 82 1=some 12:=by kernel_rfl
theorem fld_82_2:fieldB Tryz.prog 82 2=some 13:=by kernel_rfl
theorem fld_88_0:fieldB Tryz.prog 88 0=some 0:=by kernel_rfl
theorem fld_88_1:fieldB Tryz.prog 88 1=some 1:=by kernel_rfl
theorem fld_88_2:fieldB Tryz.prog 88 2=some 2:=by kernel_rfl
theorem me_227_Len:methB Tryz.prog 227 "Len" = some (90,false):=by kernel_rfl
theorem me_227_Less:methB Tryz.prog 227 "Less" = some (275,false):=by kernel_rfl
theorem me_227_Push:methB Tryz.prog 227 "Push" = some (279,true):=by kernel_rfl
theorem me_227_Swap:methB Tryz.prog 227 "Swap" = some (276,false):=by kernel_rfl
theorem me_59_Has:methB Tryz.prog 59 "Has" = some (267,true):=by kernel_rfl
theorem me_59_Len:methB Tryz.prog 59 "Len" = some (19,true):=by kernel_rfl
theorem mk2_239:mark2B Tryz.prog 239=true:=by kernel_rfl
theorem mx:Tryz.prog.follows .mixedOrders=true:=by kernel_rfl
theorem rB_35:rootB Tryz.prog 35=true:=by kernel_rfl
theorem rk_35:rootKeyB Tryz.prog 35=true:=by kernel_rfl
theorem s1_336:slice1B Tryz.prog 336=true:=by kernel_rfl
theorem s1_97:slice1B Tryz.prog 97=true:=by kernel_rfl
theorem sB_105:sliceB Tryz.prog 105=some (169,34,48):=by kernel_rfl
theorem sB_117:sliceB Tryz.prog 117=some (125,64,64):=by kernel_rfl
theorem sB_122:sliceB Tryz.prog 122=some (58,1,8):=by kernel_rfl
theorem sB_123:sliceB Tryz.prog 123=some (57,1,8):=by kernel_rfl
theorem sB_147:sliceB Tryz.prog 147=some (41,1,8):=by kernel_rfl
theorem sB_161:sliceB Tryz.prog 161=some (159,67,96):=by kernel_rfl
theorem sB_175:sliceB Tryz.prog 175=some (44,16,16):=by kernel_rfl
theorem sB_184:sliceB Tryz.prog 184=some (159,67,96):=by kernel_rfl
theorem sB_202:sliceB Tryz.prog 202=some (206,1,8):=by kernel_rfl
theorem sB_22:sliceB Tryz.prog 22=some (64,2,24):=by kernel_rfl
theorem sB_277:sliceB Tryz.prog 277=some (243,33,40):=by kernel_rfl
theorem sB_286:sliceB Tryz.prog 286=some (289,85,136):=by kernel_rfl
theorem sB_302:sliceB Tryz.prog 302=some (305,33,40):=by kernel_rfl
theorem sB_37:sliceB Tryz.prog 37=some (9,1,16):=by kernel_rfl
theorem sB_38:sliceB Tryz.prog 38=some (35,32,32):=by kernel_rfl
theorem sB_39:sliceB Tryz.prog 39=some (3,1,8):=by kernel_rfl
theorem sB_42:sliceB Tryz.prog 42=some (4,1,1):=by kernel_rfl
theorem sB_85:sliceB Tryz.prog 85=some (88,34,48):=by kernel_rfl
theorem sB_97:sliceB Tryz.prog 97=some (5,1,1):=by kernel_rfl
theorem sc_100:scalarB Tryz.prog 100=true:=by kernel_rfl
theorem sc_101:scalarB Tryz.prog 101=true:=by kernel_rfl
theorem sc_105:scalarB Tryz.prog 105=true:=by kernel_rfl
theorem sc_106:scalarB Tryz.prog 106=true:=by kernel_rfl
theorem sc_109:scalarB Tryz.prog 109=true:=by kernel_rfl
theorem sc_117:scalarB Tryz.prog 117=true:=by kernel_rfl
theorem sc_118:scalarB Tryz.prog 118=true:=by kernel_rfl
theorem sc_145:scalarB Tryz.prog 145=true:=by kernel_rfl
theorem sc_155:scalarB Tryz.prog 155=true:=by kernel_rfl
theorem sc_184:scalarB Tryz.prog 184=true:=by kernel_rfl
theorem sc_202:scalarB Tryz.prog 202=true:=by kernel_rfl
theorem sc_203:scalarB Tryz.prog 203=true:=by kernel_rfl
theorem sc_206:scalarB Tryz.prog 206=true:=by kernel_rfl
theorem sc_22:scalarB Tryz.prog 22=true:=by kernel_rfl
theorem sc_28:scalarB Tryz.prog 28=true:=by kernel_rfl
theorem sc_3:scalarB Tryz.prog 3=true:=by kernel_rfl
theorem sc_39:scalarB Tryz.prog 39=true:=by kernel_rfl
theorem sc_4:scalarB Tryz.prog 4=true:=by kernel_rfl
theorem sc_41:scalarB Tryz.prog 41=true:=by kernel_rfl
theorem sc_42:scalarB Tryz.prog 42=true:=by kernel_rfl
theorem sc_5:scalarB Tryz.prog 5=true:=by kernel_rfl
theorem sc_53:scalarB Tryz.prog 53=true:=by kernel_rfl
theorem sc_54:scalarB Tryz.prog 54=true:=by kernel_rfl
theorem sc_57:scalarB Tryz.prog 57=true:=by kernel_rfl
theorem sc_58:scalarB Tryz.prog 58=true:=by kernel_rfl
theorem sc_59:scalarB Tryz.prog 59=true:=by kernel_rfl
theorem sc_76:scalarB Tryz.prog 76=true:=by kernel_rfl
theorem sc_77:scalarB Tryz.prog 77=true:=by kernel_rfl
theorem sc_78:scalarB Tryz.prog 78=true:=by kernel_rfl
theorem sc_9:scalarB Tryz.prog 9=true:=by kernel_rfl
theorem sc_97:scalarB Tryz.prog 97=true:=by kernel_rfl
theorem sp_44:s2apB Tryz.prog 44=some 16:=by kernel_rfl
theorem tB_44:bytesB Tryz.prog 44 16=true:=by kernel_rfl
theorem zB_120:zeroB Tryz.prog 120=some (.agg #[.slice none 0 0,.slice none 0 0]):=by kernel_rfl
theorem zB_125:zeroB Tryz.prog 125=some (.agg #[.int .u8 0,.int .u8 0,.int .u8 0,.int .u8 0,.int .u8 0,.int .u8 0,.int .u8 0,.int .u8 0,.int .u8 0,.int .u8 0,.int .u8 0,.int .u8 0,.int .u8 0,.int .u8 0,.int .u8 0,.int .u8 0,.int .u8 0,.int .u8 0,.int .u8 0,.int .u8 0,.int .u8 0,.int .u8 0,.int .u8 0,.int .u8 0,.int .u8 0,.int .u8 0,.int .u8 0,.int .u8 0,.int .u8 0,.int .u8 0,.int .u8 0,.int .u8 0,.int .u8 0,.int .u8 0,.int .u8 0,.int .u8 0,.int .u8 0,.int .u8 0,.int .u8 0,.int .u8 0,.int .u8 0,.int .u8 0,.int .u8 0,.int .u8 0,.int .u8 0,.int .u8 0,.int .u8 0,.int .u8 0,.int .u8 0,.int .u8 0,.int .u8 0,.int .u8 0,.int .u8 0,.int .u8 0,.int .u8 0,.int .u8 0,.int .u8 0,.int .u8 0,.int .u8 0,.int .u8 0,.int .u8 0,.int .u8 0,.int .u8 0,.int .u8 0]):=by kernel_rfl
theorem zB_146:zeroB Tryz.prog 146=some (.agg #[.int .u32 0,.int .u32 0,.int .u32 0,.int .u32 0,.int .u32 0,.int .u32 0,.int .u32 0,.int .u32 0]):=by kernel_rfl
theorem zB_150:zeroB Tryz.prog 150=some (.agg #[.int .u32 0,.int .u32 0,.int .u32 0,.int .u32 0,.int .u32 0,.int .u32 0,.int .u32 0,.int .u32 0,.int .u32 0,.int .u32 0,.int .u32 0,.int .u32 0,.int .u32 0,.int .u32 0,.int .u32 0,.int .u32 0,.int .u32 0,.int .u32 0,.int .u32 0,.int .u32 0,.int .u32 0,.int .u32 0,.int .u32 0,.int .u32 0,.int .u32 0,.int .u32 0,.int .u32 0,.int .u32 0,.int .u32 0,.int .u32 0,.int .u32 0,.int .u32 0,.int .u32 0,.int .u32 0,.int .u32 0,.int .u32 0,.int .u32 0,.int .u32 0,.int .u32 0,.int .u32 0,.int .u32 0,.int .u32 0,.int .u32 0,.int .u32 0,.int .u32 0,.int .u32 0,.int .u32 0,.int .u32 0,.int .u32 0,.int .u32 0,.int .u32 0,.int .u32 0,.int .u32 0,.int .u32 0,.int .u32 0,.int .u32 0,.int .u32 0,.int .u32 0,.int .u32 0,.int .u32 0,.int .u32 0,.int .u32 0,.int .u32 0,.int .u32 0]):=by kernel_rfl
theorem zB_159:zeroB Tryz.prog 159=some (.agg #[.int .i64 0,.int .u8 0,.int .u8 0,.int .u8 0,.int .u8 0,.int .u8 0,.int .u8 0,.int .u8 0,.int .u8 0,.int .u8 0,.int .u8 0,.int .u8 0,.int .u8 0,.int .u8 0,.int .u8 0,.int .u8 0,.int .u8 0,.int .u8 0,.int .u8 0,.int .u8 0,.int .u8 0,.int .u8 0,.int .u8 0,.int .u8 0,.int .u8 0,.int .u8 0,.int .u8 0,.int .u8 0,.int .u8 0,.int .u8 0,.int .u8 0,.int .u8 0,.int .u8 0,.int .i64 0,.int .u8 0,.int .u8 0,.int .u8 0,.int .u8 0,.int .u8 0,.int .u8 0,.int .u8 0,.int .u8 0,.int .u8 0,.int .u8 0,.int .u8 0,.int .u8 0,.int .u8 0,.int .u8 0,.int .u8 0,.int .u8 0,.int .u8 0,.int .u8 0,.int .u8 0,.int .u8 0,.int .u8 0,.int .u8 0,.int .u8 0,.int .u8 0,.int .u8 0,.int .u8 0,.int .u8 0,.int .u8 0,.int .u8 0,.int .u8 0,.int .u8 0,.int .u8 0,.string ⟨#[]⟩]):=by kernel_rfl
theorem zB_169:zeroB Tryz.prog 169=some (.agg #[.int .u8 0,.int .u8 0,.int .u8 0,.int .u8 0,.int .u8 0,.int .u8 0,.int .u8 0,.int .u8 0,.int .u8 0,.int .u8 0,.int .u8 0,.int .u8 0,.int .u8 0,.int .u8 0,.int .u8 0,.int .u8 0,.int .u8 0,.int .u8 0,.int .u8 0,.int .u8 0,.int .u8 0,.int .u8 0,.int .u8 0,.int .u8 0,.int .u8 0,.int .u8 0,.int .u8 0,.int .u8 0,.int .u8 0,.int .u8 0,.int .u8 0,.int .u8 0,.int .i64 0,.int .i64 0]):=by kernel_rfl
theorem zB_239:zeroB Tryz.prog 239=some (.agg #[.int .i64 0,.int .i64 0]):=by kernel_rfl
theorem zB_24:zeroB Tryz.prog 24=some (.agg #[.slice none 0 0,.int .i64 0,.int .i64 0,.int .i64 0,.int .i64 0,.int .i64 0,.int .i64 0,.int .i64 0,.int .i64 0,.int .i64 0,.int .i64 0,.int .i64 0]):=by kernel_rfl
theorem zB_243:zeroB Tryz.prog 243=some (.agg #[.int .u8 0,.int .u8 0,.int .u8 0,.int .u8 0,.int .u8 0,.int .u8 0,.int .u8 0,.int .u8 0,.int .u8 0,.int .u8 0,.int .u8 0,.int .u8 0,.int .u8 0,.int .u8 0,.int .u8 0,.int .u8 0,.int .u8 0,.int .u8 0,.int .u8 0,.int .u8 0,.int .u8 0,.int .u8 0,.int .u8 0,.int .u8 0,.int .u8 0,.int .u8 0,.int .u8 0,.int .u8 0,.int .u8 0,.int .u8 0,.int .u8 0,.int .u8 0,.int .i64 0]):=by kernel_rfl
theorem zB_289:zeroB Tryz.prog 289=some (.agg #[.int .u8 0,.int .u8 0,.int .u8 0,.int .u8 0,.int .u8 0,.int .u8 0,.int .u8 0,.int .u8 0,.int .u8 0,.int .u8 0,.int .u8 0,.int .u8 0,.int .u8 0,.int .u8 0,.int .u8 0,.int .u8 0,.int .u8 0,.int .u8 0,.int .u8 0,.int .u8 0,.int .u8 0,.int .u8 0,.int .u8 0,.int .u8 0,.int .u8 0,.int .u8 0,.int .u8 0,.int .u8 0,.int .u8 0,.int .u8 0,.int .u8 0,.int .u8 0,.int .i64 0,.int .i64 0,.int .u8 0,.int .u8 0,.int .u8 0,.int .u8 0,.int .u8 0,.int .u8 0,.int .u8 0,.int .u8 0,.int .u8 0,.int .u8 0,.int .u8 0,.int .u8 0,.int .u8 0,.int .u8 0,.int .u8 0,.int .u8 0,.int .u8 0,.int .u8 0,.int .u8 0,.int .u8 0,.int .u8 0,.int .u8 0,.int .u8 0,.int .u8 0,.int .u8 0,.int .u8 0,.int .u8 0,.int .u8 0,.int .u8 0,.int .u8 0,.int .u8 0,.int .u8 0,.int .i64 0,.int .u64 0,.slice none 0 0,.int .u8 0,.int .u8 0,.int .u8 0,.int .u8 0,.int .u8 0,.int .u8 0,.int .u8 0,.int .u8 0,.int .u8 0,.int .u8 0,.int .u8 0,.int .u8 0,.int .u8 0,.int .u8 0,.int .u8 0,.int .u8 0]):=by kernel_rfl
theorem zB_3:zeroB Tryz.prog 3=some (.int .i64 0):=by kernel_rfl
theorem zB_305:zeroB Tryz.prog 305=some (.agg #[.int .u8 0,.int .u8 0,.int .u8 0,.int .u8 0,.int .u8 0,.int .u8 0,.int .u8 0,.int .u8 0,.int .u8 0,.int .u8 0,.int .u8 0,.int .u8 0,.int .u8 0,.int .u8 0,.int .u8 0,.int .u8 0,.int .u8 0,.int .u8 0,.int .u8 0,.int .u8 0,.int .u8 0,.int .u8 0,.int .u8 0,.int .u8 0,.int .u8 0,.int .u8 0,.int .u8 0,.int .u8 0,.int .u8 0,.int .u8 0,.int .u8 0,.int .u8 0,.int .i64 0]):=by kernel_rfl
theorem zB_31:zeroB Tryz.prog 31=some (.agg #[.pointer none,.pointer none]):=by kernel_rfl
theorem zB_35:zeroB Tryz.prog 35=some (.agg #[.int .u8 0,.int .u8 0,.int .u8 0,.int .u8 0,.int .u8 0,.int .u8 0,.int .u8 0,.int .u8 0,.int .u8 0,.int .u8 0,.int .u8 0,.int .u8 0,.int .u8 0,.int .u8 0,.int .u8 0,.int .u8 0,.int .u8 0,.int .u8 0,.int .u8 0,.int .u8 0,.int .u8 0,.int .u8 0,.int .u8 0,.int .u8 0,.int .u8 0,.int .u8 0,.int .u8 0,.int .u8 0,.int .u8 0,.int .u8 0,.int .u8 0,.int .u8 0]):=by kernel_rfl
theorem zB_350:zeroB Tryz.prog 350=some (.agg #[.int .u8 0,.int .u8 0,.int .u8 0,.int .u8 0,.int .u8 0,.int .u8 0,.int .u8 0,.int .u8 0,.int .u8 0,.int .u8 0,.int .u8 0,.int .u8 0,.int .u8 0,.int .u8 0,.int .u8 0,.int .u8 0,.int .u8 0,.int .u8 0,.int .u8 0,.int .u8 0,.int .u8 0,.int .u8 0,.int .u8 0,.int .u8 0,.int .u8 0,.int .u8 0,.int .u8 0,.int .u8 0,.int .u8 0,.int .u8 0,.int .u8 0,.int .u8 0,.int .u8 0,.int .u8 0,.int .u8 0,.int .u8 0,.int .u8 0,.int .u8 0,.int .u8 0,.int .u8 0,.int .u8 0,.int .u8 0,.int .u8 0,.int .u8 0,.int .u8 0,.int .u8 0,.int .u8 0,.int .u8 0,.int .u8 0,.int .u8 0,.int .u8 0,.int .u8 0,.int .u8 0,.int .u8 0,.int .u8 0,.int .u8 0,.int .u8 0,.int .u8 0,.int .u8 0,.int .u8 0,.int .u8 0,.int .u8 0,.int .u8 0,.int .u8 0]):=by kernel_rfl
theorem zB_44:zeroB Tryz.prog 44=some (.agg #[.int .u8 0,.int .u8 0,.int .u8 0,.int .u8 0,.int .u8 0,.int .u8 0,.int .u8 0,.int .u8 0,.int .u8 0,.int .u8 0,.int .u8 0,.int .u8 0,.int .u8 0,.int .u8 0,.int .u8 0,.int .u8 0]):=by kernel_rfl
theorem zB_46:zeroB Tryz.prog 46=some (.agg #[.int .i64 0,.int .i64 0,.int .u8 0,.int .u8 0,.int .u8 0,.int .u8 0,.int .u8 0,.int .u8 0,.int .u8 0,.int .u8 0,.int .u8 0,.int .u8 0,.int .u8 0,.int .u8 0,.int .u8 0,.int .u8 0,.int .u8 0,.int .u8 0,.int .u8 0,.int .u8 0,.int .u8 0,.int .u8 0,.int .u8 0,.int .u8 0,.int .u8 0,.int .u8 0,.int .u8 0,.int .u8 0,.int .u8 0,.int .u8 0,.int .u8 0,.int .u8 0,.int .u8 0,.int .u8 0,.int .i64 0,.int .u64 0,.slice none 0 0,.int .u8 0,.int .u8 0,.int .u8 0,.int .u8 0,.int .u8 0,.int .u8 0,.int .u8 0,.int .u8 0,.int .u8 0,.int .u8 0,.int .u8 0,.int .u8 0,.int .u8 0,.int .u8 0,.int .u8 0,.int .u8 0]):=by kernel_rfl
theorem zB_64:zeroB Tryz.prog 64=some (.agg #[.int .i64 0,.string ⟨#[]⟩]):=by kernel_rfl
theorem zB_70:zeroB Tryz.prog 70=some (.agg #[.int .i64 0,.int .i64 0,.int .i64 0,.int .i64 0,.int .i64 0,.int .i64 0]):=by kernel_rfl
theorem zB_80:zeroB Tryz.prog 80=some (.agg #[.pointer none,.pointer none,.pointer none,.pointer none]):=by kernel_rfl
theorem zB_88:zeroB Tryz.prog 88=some (.agg #[.int .i64 0,.int .i64 0,.int .u8 0,.int .u8 0,.int .u8 0,.int .u8 0,.int .u8 0,.int .u8 0,.int .u8 0,.int .u8 0,.int .u8 0,.int .u8 0,.int .u8 0,.int .u8 0,.int .u8 0,.int .u8 0,.int .u8 0,.int .u8 0,.int .u8 0,.int .u8 0,.int .u8 0,.int .u8 0,.int .u8 0,.int .u8 0,.int .u8 0,.int .u8 0,.int .u8 0,.int .u8 0,.int .u8 0,.int .u8 0,.int .u8 0,.int .u8 0,.int .u8 0,.int .u8 0]):=by kernel_rfl
theorem zBr_35:zeroB Tryz.prog 35=some (.agg (rootC Root.zero).toArray):=by kernel_rfl
theorem zBt_44:zeroB Tryz.prog 44=some (.agg (tagC Tag.zero).toArray):=by kernel_rfl
theorem zv_125:(Tryz.prog.info? 125).bind (·.zero)=some (.agg #[.int .u8 0,.int .u8 0,.int .u8 0,.int .u8 0,.int .u8 0,.int .u8 0,.int .u8 0,.int .u8 0,.int .u8 0,.int .u8 0,.int .u8 0,.int .u8 0,.int .u8 0,.int .u8 0,.int .u8 0,.int .u8 0,.int .u8 0,.int .u8 0,.int .u8 0,.int .u8 0,.int .u8 0,.int .u8 0,.int .u8 0,.int .u8 0,.int .u8 0,.int .u8 0,.int .u8 0,.int .u8 0,.int .u8 0,.int .u8 0,.int .u8 0,.int .u8 0,.int .u8 0,.int .u8 0,.int .u8 0,.int .u8 0,.int .u8 0,.int .u8 0,.int .u8 0,.int .u8 0,.int .u8 0,.int .u8 0,.int .u8 0,.int .u8 0,.int .u8 0,.int .u8 0,.int .u8 0,.int .u8 0,.int .u8 0,.int .u8 0,.int .u8 0,.int .u8 0,.int .u8 0,.int .u8 0,.int .u8 0,.int .u8 0,.int .u8 0,.int .u8 0,.int .u8 0,.int .u8 0,.int .u8 0,.int .u8 0,.int .u8 0,.int .u8 0]):=by kernel_rfl
theorem zv_159:(Tryz.prog.info? 159).bind (·.zero)=some (.agg #[.int .i64 0,.int .u8 0,.int .u8 0,.int .u8 0,.int .u8 0,.int .u8 0,.int .u8 0,.int .u8 0,.int .u8 0,.int .u8 0,.int .u8 0,.int .u8 0,.int .u8 0,.int .u8 0,.int .u8 0,.int .u8 0,.int .u8 0,.int .u8 0,.int .u8 0,.int .u8 0,.int .u8 0,.int .u8 0,.int .u8 0,.int .u8 0,.int .u8 0,.int .u8 0,.int .u8 0,.int .u8 0,.int .u8 0,.int .u8 0,.int .u8 0,.int .u8 0,.int .u8 0,.int .i64 0,.int .u8 0,.int .u8 0,.int .u8 0,.int .u8 0,.int .u8 0,.int .u8 0,.int .u8 0,.int .u8 0,.int .u8 0,.int .u8 0,.int .u8 0,.int .u8 0,.int .u8 0,.int .u8 0,.int .u8 0,.int .u8 0,.int .u8 0,.int .u8 0,.int .u8 0,.int .u8 0,.int .u8 0,.int .u8 0,.int .u8 0,.int .u8 0,.int .u8 0,.int .u8 0,.int .u8 0,.int .u8 0,.int .u8 0,.int .u8 0,.int .u8 0,.int .u8 0,.string ⟨#[]⟩]):=by kernel_rfl
theorem zv_169:(Tryz.prog.info? 169).bind (·.zero)=some (.agg #[.int .u8 0,.int .u8 0,.int .u8 0,.int .u8 0,.int .u8 0,.int .u8 0,.int .u8 0,.int .u8 0,.int .u8 0,.int .u8 0,.int .u8 0,.int .u8 0,.int .u8 0,.int .u8 0,.int .u8 0,.int .u8 0,.int .u8 0,.int .u8 0,.int .u8 0,.int .u8 0,.int .u8 0,.int .u8 0,.int .u8 0,.int .u8 0,.int .u8 0,.int .u8 0,.int .u8 0,.int .u8 0,.int .u8 0,.int .u8 0,.int .u8 0,.int .u8 0,.int .i64 0,.int .i64 0]):=by kernel_rfl
theorem zv_206:(Tryz.prog.info? 206).bind (·.zero)=some (.pointer none):=by kernel_rfl
theorem zv_243:(Tryz.prog.info? 243).bind (·.zero)=some (.agg #[.int .u8 0,.int .u8 0,.int .u8 0,.int .u8 0,.int .u8 0,.int .u8 0,.int .u8 0,.int .u8 0,.int .u8 0,.int .u8 0,.int .u8 0,.int .u8 0,.int .u8 0,.int .u8 0,.int .u8 0,.int .u8 0,.int .u8 0,.int .u8 0,.int .u8 0,.int .u8 0,.int .u8 0,.int .u8 0,.int .u8 0,.int .u8 0,.int .u8 0,.int .u8 0,.int .u8 0,.int .u8 0,.int .u8 0,.int .u8 0,.int .u8 0,.int .u8 0,.int .i64 0]):=by kernel_rfl
theorem zv_289:(Tryz.prog.info? 289).bind (·.zero)=some (.agg #[.int .u8 0,.int .u8 0,.int .u8 0,.int .u8 0,.int .u8 0,.int .u8 0,.int .u8 0,.int .u8 0,.int .u8 0,.int .u8 0,.int .u8 0,.int .u8 0,.int .u8 0,.int .u8 0,.int .u8 0,.int .u8 0,.int .u8 0,.int .u8 0,.int .u8 0,.int .u8 0,.int .u8 0,.int .u8 0,.int .u8 0,.int .u8 0,.int .u8 0,.int .u8 0,.int .u8 0,.int .u8 0,.int .u8 0,.int .u8 0,.int .u8 0,.int .u8 0,.int .i64 0,.int .i64 0,.int .u8 0,.int .u8 0,.int .u8 0,.int .u8 0,.int .u8 0,.int .u8 0,.int .u8 0,.int .u8 0,.int .u8 0,.int .u8 0,.int .u8 0,.int .u8 0,.int .u8 0,.int .u8 0,.int .u8 0,.int .u8 0,.int .u8 0,.int .u8 0,.int .u8 0,.int .u8 0,.int .u8 0,.int .u8 0,.int .u8 0,.int .u8 0,.int .u8 0,.int .u8 0,.int .u8 0,.int .u8 0,.int .u8 0,.int .u8 0,.int .u8 0,.int .u8 0,.int .i64 0,.int .u64 0,.slice none 0 0,.int .u8 0,.int .u8 0,.int .u8 0,.int .u8 0,.int .u8 0,.int .u8 0,.int .u8 0,.int .u8 0,.int .u8 0,.int .u8 0,.int .u8 0,.int .u8 0,.int .u8 0,.int .u8 0,.int .u8 0,.int .u8 0]):=by kernel_rfl
theorem zv_3:(Tryz.prog.info? 3).bind (·.zero)=some (.int .i64 0):=by kernel_rfl
theorem zv_305:(Tryz.prog.info? 305).bind (·.zero)=some (.agg #[.int .u8 0,.int .u8 0,.int .u8 0,.int .u8 0,.int .u8 0,.int .u8 0,.int .u8 0,.int .u8 0,.int .u8 0,.int .u8 0,.int .u8 0,.int .u8 0,.int .u8 0,.int .u8 0,.int .u8 0,.int .u8 0,.int .u8 0,.int .u8 0,.int .u8 0,.int .u8 0,.int .u8 0,.int .u8 0,.int .u8 0,.int .u8 0,.int .u8 0,.int .u8 0,.int .u8 0,.int .u8 0,.int .u8 0,.int .u8 0,.int .u8 0,.int .u8 0,.int .i64 0]):=by kernel_rfl
theorem zv_35:(Tryz.prog.info? 35).bind (·.zero)=some (.agg #[.int .u8 0,.int .u8 0,.int .u8 0,.int .u8 0,.int .u8 0,.int .u8 0,.int .u8 0,.int .u8 0,.int .u8 0,.int .u8 0,.int .u8 0,.int .u8 0,.int .u8 0,.int .u8 0,.int .u8 0,.int .u8 0,.int .u8 0,.int .u8 0,.int .u8 0,.int .u8 0,.int .u8 0,.int .u8 0,.int .u8 0,.int .u8 0,.int .u8 0,.int .u8 0,.int .u8 0,.int .u8 0,.int .u8 0,.int .u8 0,.int .u8 0,.int .u8 0]):=by kernel_rfl
theorem zv_4:(Tryz.prog.info? 4).bind (·.zero)=some (.bool false):=by kernel_rfl
theorem zv_41:(Tryz.prog.info? 41).bind (·.zero)=some (.int .u64 0):=by kernel_rfl
theorem zv_44:(Tryz.prog.info? 44).bind (·.zero)=some (.agg #[.int .u8 0,.int .u8 0,.int .u8 0,.int .u8 0,.int .u8 0,.int .u8 0,.int .u8 0,.int .u8 0,.int .u8 0,.int .u8 0,.int .u8 0,.int .u8 0,.int .u8 0,.int .u8 0,.int .u8 0,.int .u8 0]):=by kernel_rfl
theorem zv_5:(Tryz.prog.info? 5).bind (·.zero)=some (.int .u8 0):=by kernel_rfl
theorem zv_57:(Tryz.prog.info? 57).bind (·.zero)=some (.nilFunc):=by kernel_rfl
theorem zv_58:(Tryz.prog.info? 58).bind (·.zero)=some (.nilFunc):=by kernel_rfl
theorem zv_64:(Tryz.prog.info? 64).bind (·.zero)=some (.agg #[.int .i64 0,.string ⟨#[]⟩]):=by kernel_rfl
theorem zv_88:(Tryz.prog.info? 88).bind (·.zero)=some (.agg #[.int .i64 0,.int .i64 0,.int .u8 0,.int .u8 0,.int .u8 0,.int .u8 0,.int .u8 0,.int .u8 0,.int .u8 0,.int .u8 0,.int .u8 0,.int .u8 0,.int .u8 0,.int .u8 0,.int .u8 0,.int .u8 0,.int .u8 0,.int .u8 0,.int .u8 0,.int .u8 0,.int .u8 0,.int .u8 0,.int .u8 0,.int .u8 0,.int .u8 0,.int .u8 0,.int .u8 0,.int .u8 0,.int .u8 0,.int .u8 0,.int .u8 0,.int .u8 0,.int .u8 0,.int .u8 0]):=by kernel_rfl
theorem zv_9:(Tryz.prog.info? 9).bind (·.zero)=some (.string ⟨#[]⟩):=by kernel_rfl
instance:QAG Tryz.prog 120 2:=⟨ag_120⟩
instance:QAG Tryz.prog 125 64:=⟨ag_125⟩
instance:QAG Tryz.prog 146 8:=⟨ag_146⟩
instance:QAG Tryz.prog 150 64:=⟨ag_150⟩
instance:QAG Tryz.prog 159 67:=⟨ag_159⟩
instance:QAG Tryz.prog 169 34:=⟨ag_169⟩
instance:QAG Tryz.prog 239 2:=⟨ag_239⟩
instance:QAG Tryz.prog 24 12:=⟨ag_24⟩
instance:QAG Tryz.prog 243 33:=⟨ag_243⟩
instance:QAG Tryz.prog 289 85:=⟨ag_289⟩
instance:QAG Tryz.prog 305 33:=⟨ag_305⟩
instance:QAG Tryz.prog 31 2:=⟨ag_31⟩
instance:QAG Tryz.prog 35 32:=⟨ag_35⟩
instance:QAG Tryz.prog 44 16:=⟨ag_44⟩
instance:QAG Tryz.prog 46 53:=⟨ag_46⟩
instance:QAG Tryz.prog 64 2:=⟨ag_64⟩
instance:QAG Tryz.prog 70 6:=⟨ag_70⟩
instance:QAG Tryz.prog 80 4:=⟨ag_80⟩
instance:QAG Tryz.prog 88 34:=⟨ag_88⟩
instance:QFB Tryz.prog 103 0 0:=⟨fld_103_0⟩
instance:QFB Tryz.prog 103 1 12:=⟨fld_103_1⟩
instance:QFB Tryz.prog 103 2 13:=⟨fld_103_2⟩
instance:QFB Tryz.prog 103 3 14:=⟨fld_103_3⟩
instance:QFB Tryz.prog 108 0 0:=⟨fld_108_0⟩
instance:QFB Tryz.prog 108 1 1:=⟨fld_108_1⟩
instance:QFB Tryz.prog 108 2 2:=⟨fld_108_2⟩
instance:QFB Tryz.prog 111 0 0:=⟨fld_111_0⟩
instance:QFB Tryz.prog 120 0 0:=⟨fld_120_0⟩
instance:QFB Tryz.prog 120 1 1:=⟨fld_120_1⟩
instance:QFB Tryz.prog 125 0 0:=⟨fld_125_0⟩
instance:QFB Tryz.prog 125 1 32:=⟨fld_125_1⟩
instance:QFB Tryz.prog 154 0 0:=⟨fld_154_0⟩
instance:QFB Tryz.prog 154 1 1:=⟨fld_154_1⟩
instance:QFB Tryz.prog 157 0 0:=⟨fld_157_0⟩
instance:QFB Tryz.prog 157 2 2:=⟨fld_157_2⟩
instance:QFB Tryz.prog 159 0 0:=⟨fld_159_0⟩
instance:QFB Tryz.prog 159 1 1:=⟨fld_159_1⟩
instance:QFB Tryz.prog 159 2 33:=⟨fld_159_2⟩
instance:QFB Tryz.prog 159 3 34:=⟨fld_159_3⟩
instance:QFB Tryz.prog 159 4 66:=⟨fld_159_4⟩
instance:QFB Tryz.prog 163 0 0:=⟨fld_163_0⟩
instance:QFB Tryz.prog 169 0 0:=⟨fld_169_0⟩
instance:QFB Tryz.prog 169 1 32:=⟨fld_169_1⟩
instance:QFB Tryz.prog 169 2 33:=⟨fld_169_2⟩
instance:QFB Tryz.prog 186 0 0:=⟨fld_186_0⟩
instance:QFB Tryz.prog 186 1 1:=⟨fld_186_1⟩
instance:QFB Tryz.prog 186 2 2:=⟨fld_186_2⟩
instance:QFB Tryz.prog 205 0 0:=⟨fld_205_0⟩
instance:QFB Tryz.prog 205 1 1:=⟨fld_205_1⟩
instance:QFB Tryz.prog 205 2 2:=⟨fld_205_2⟩
instance:QFB Tryz.prog 205 3 3:=⟨fld_205_3⟩
instance:QFB Tryz.prog 239 1 1:=⟨fld_239_1⟩
instance:QFB Tryz.prog 243 0 0:=⟨fld_243_0⟩
instance:QFB Tryz.prog 243 1 32:=⟨fld_243_1⟩
instance:QFB Tryz.prog 24 0 0:=⟨fld_24_0⟩
instance:QFB Tryz.prog 24 1 1:=⟨fld_24_1⟩
instance:QFB Tryz.prog 24 10 10:=⟨fld_24_10⟩
instance:QFB Tryz.prog 24 11 11:=⟨fld_24_11⟩
instance:QFB Tryz.prog 24 2 2:=⟨fld_24_2⟩
instance:QFB Tryz.prog 24 3 3:=⟨fld_24_3⟩
instance:QFB Tryz.prog 24 4 4:=⟨fld_24_4⟩
instance:QFB Tryz.prog 24 5 5:=⟨fld_24_5⟩
instance:QFB Tryz.prog 24 6 6:=⟨fld_24_6⟩
instance:QFB Tryz.prog 24 7 7:=⟨fld_24_7⟩
instance:QFB Tryz.prog 24 8 8:=⟨fld_24_8⟩
instance:QFB Tryz.prog 24 9 9:=⟨fld_24_9⟩
instance:QFB Tryz.prog 251 0 0:=⟨fld_251_0⟩
instance:QFB Tryz.prog 251 1 1:=⟨fld_251_1⟩
instance:QFB Tryz.prog 251 2 2:=⟨fld_251_2⟩
instance:QFB Tryz.prog 251 3 3:=⟨fld_251_3⟩
instance:QFB Tryz.prog 251 4 4:=⟨fld_251_4⟩
instance:QFB Tryz.prog 274 0 0:=⟨fld_274_0⟩
instance:QFB Tryz.prog 274 1 1:=⟨fld_274_1⟩
instance:QFB Tryz.prog 289 0 0:=⟨fld_289_0⟩
instance:QFB Tryz.prog 289 1 32:=⟨fld_289_1⟩
instance:QFB Tryz.prog 295 0 0:=⟨fld_295_0⟩
instance:QFB Tryz.prog 295 1 8:=⟨fld_295_1⟩
instance:QFB Tryz.prog 295 2 9:=⟨fld_295_2⟩
instance:QFB Tryz.prog 305 0 0:=⟨fld_305_0⟩
instance:QFB Tryz.prog 305 1 32:=⟨fld_305_1⟩
instance:QFB Tryz.prog 31 0 0:=⟨fld_31_0⟩
instance:QFB Tryz.prog 46 0 0:=⟨fld_46_0⟩
instance:QFB Tryz.prog 46 1 1:=⟨fld_46_1⟩
instance:QFB Tryz.prog 46 2 2:=⟨fld_46_2⟩
instance:QFB Tryz.prog 46 3 34:=⟨fld_46_3⟩
instance:QFB Tryz.prog 46 4 35:=⟨fld_46_4⟩
instance:QFB Tryz.prog 46 5 36:=⟨fld_46_5⟩
instance:QFB Tryz.prog 46 6 37:=⟨fld_46_6⟩
instance:QFB Tryz.prog 64 0 0:=⟨fld_64_0⟩
instance:QFB Tryz.prog 64 1 1:=⟨fld_64_1⟩
instance:QFB Tryz.prog 80 0 0:=⟨fld_80_0⟩
instance:QFB Tryz.prog 80 1 1:=⟨fld_80_1⟩
instance:QFB Tryz.prog 80 2 2:=⟨fld_80_2⟩
instance:QFB Tryz.prog 80 3 3:=⟨fld_80_3⟩
instance:QFB Tryz.prog 82 0 0:=⟨fld_82_0⟩
instance:QFB Tryz.prog 82 1 12:=⟨fld_82_1⟩
instance:QFB Tryz.prog 82 2 13:=⟨fld_82_2⟩
instance:QFB Tryz.prog 88 0 0:=⟨fld_88_0⟩
instance:QFB Tryz.prog 88 1 1:=⟨fld_88_1⟩
instance:QFB Tryz.prog 88 2 2:=⟨fld_88_2⟩
instance:QSC Tryz.prog 100:=⟨sc_100⟩
instance:QSC Tryz.prog 101:=⟨sc_101⟩
instance:QSC Tryz.prog 105:=⟨sc_105⟩
instance:QSC Tryz.prog 106:=⟨sc_106⟩
instance:QSC Tryz.prog 109:=⟨sc_109⟩
instance:QSC Tryz.prog 117:=⟨sc_117⟩
instance:QSC Tryz.prog 118:=⟨sc_118⟩
instance:QSC Tryz.prog 145:=⟨sc_145⟩
instance:QSC Tryz.prog 155:=⟨sc_155⟩
instance:QSC Tryz.prog 184:=⟨sc_184⟩
instance:QSC Tryz.prog 202:=⟨sc_202⟩
instance:QSC Tryz.prog 203:=⟨sc_203⟩
instance:QSC Tryz.prog 206:=⟨sc_206⟩
instance:QSC Tryz.prog 22:=⟨sc_22⟩
instance:QSC Tryz.prog 28:=⟨sc_28⟩
instance:QSC Tryz.prog 3:=⟨sc_3⟩
instance:QSC Tryz.prog 39:=⟨sc_39⟩
instance:QSC Tryz.prog 4:=⟨sc_4⟩
instance:QSC Tryz.prog 41:=⟨sc_41⟩
instance:QSC Tryz.prog 42:=⟨sc_42⟩
instance:QSC Tryz.prog 5:=⟨sc_5⟩
instance:QSC Tryz.prog 53:=⟨sc_53⟩
instance:QSC Tryz.prog 54:=⟨sc_54⟩
instance:QSC Tryz.prog 57:=⟨sc_57⟩
instance:QSC Tryz.prog 58:=⟨sc_58⟩
instance:QSC Tryz.prog 59:=⟨sc_59⟩
instance:QSC Tryz.prog 76:=⟨sc_76⟩
instance:QSC Tryz.prog 77:=⟨sc_77⟩
instance:QSC Tryz.prog 78:=⟨sc_78⟩
instance:QSC Tryz.prog 9:=⟨sc_9⟩
instance:QSC Tryz.prog 97:=⟨sc_97⟩
theorem op_maxe {P:Program} {w0:World} {n:Nat} {f:Fr} {l:List HProp} {d:Option Tmp} {ty:TypeId} {pos:String} {aft:Array Edge} {g:Option (Nat×Bool)} {x y:Operand} {ats:Array TypeId} {k k2:IntKind} {a b c:Int} (hx:ev f x=.int k a) (hy:ev f y=.int k2 b) (h:(if a<b then b else a)=c):OP P w0 n ⟨d,.call ⟨.builtin .max,#[x,y],ats⟩,ty,pos,aft,g⟩ f l (.int k c):=h ▸ op_max hx hy
theorem op_mine {P:Program} {w0:World} {n:Nat} {f:Fr} {l:List HProp} {d:Option Tmp} {ty:TypeId} {pos:String} {aft:Array Edge} {g:Option (Nat×Bool)} {x y:Operand} {ats:Array TypeId} {k k2:IntKind} {a b c:Int} (hx:ev f x=.int k a) (hy:ev f y=.int k2 b) (h:(if b<a then b else a)=c):OP P w0 n ⟨d,.call ⟨.builtin .min,#[x,y],ats⟩,ty,pos,aft,g⟩ f l (.int k c):=h ▸ op_min hx hy
theorem CNew_calls {w0 w:World} {l:List HProp} (win:Int) (hs:Sat w0 w (l)) (h:1≤win∧win≤64) :
  Calls Tryz.prog 49 #[.int .i64 win] w (Ret w0 fun v l'=>∃ pc,v=.pointer (some ⟨pc,0,none⟩)∧l'=Blk pc (.cells #[.int .i64 0,.int .i64 win] 154 (0,0))::l):=by
 refine calls_enter Tryz.func49 rfl rfl rfl hs ?_
 refine R6 ?_
 refine oq (op_maxe (c:=win) rfl rfl (by split<;>omega)) ?_
 refine oq (op_mine (c:=win) rfl rfl (by split<;>omega)) ?_
 refine oq (op_build (L:=[_,_]) (vs:=[(1,.int _ _)]) bB_154 rfl ⟨⟨rfl,rfl⟩,trivial⟩ rfl) ?_
 refine Z19 ?_;intro bx1
 refine R4 ?_
 exact px_ret1 rfl (v:=.pointer _) rfl (fun _ s=>s) ⟨_,rfl,rfl⟩
theorem CTick_calls {w0 w:World} {l:List HProp} (pc:Nat) (now win:Int) (hs:Sat w0 w ((Blk pc (.cells #[.int .i64 now,.int .i64 win] 154 (0,0)))::l)) (h:0≤now∧now<1000) :
  Calls Tryz.prog 26 #[.pointer (some ⟨pc,0,none⟩)] w (Ret w0 fun v l'=>v=.bool true∧l'=Blk pc (.cells #[.int .i64 (now+1),.int .i64 win] 154 (0,0))::l):=by
 refine calls_enter Tryz.func26 rfl rfl rfl hs ?_
 refine R7 ?_
 refine oq (op_eqnil Tryz.underlying76 rfl rfl) ?_
 refine R1 ?_
 refine Z6e ?_
 refine Z6f ?_
 refine ol_q (wn_some rfl rfl rfl rfl rfl) (op_field fld_154_0 rfl) rfl ?_
 refine ol_q (wn_some rfl rfl rfl rfl rfl) (op_ld 0 sc_3 rfl rfl rfl) rfl ?_
 refine ol_q (wn_some rfl rfl rfl rfl rfl) (op_ge rfl rfl) rfl ?_
 refine Z1n ?_
 refine Z8 ?_ ?_
 ·intro hb1 hp1
  exact Z58
 intro hb1 hp1
 refine R10 ?_
 refine oN (os_store (v:=.int _ _) sc_3 rfl rfl rfl rfl (Free.zero _) rfl) ?_;rintro _ _ ⟨rfl,rfl⟩
 refine R7 ?_
 exact px_ret1 rfl (v:=.bool true) rfl (fun _ s=>s) ⟨rfl,rfl⟩
theorem CNow_calls {w0 w:World} {l:List HProp} (pc:Nat) (now win:Int) (hs:Sat w0 w ((Blk pc (.cells #[.int .i64 now,.int .i64 win] 154 (0,0)))::l))  :
  Calls Tryz.prog 29 #[.pointer (some ⟨pc,0,none⟩)] w (Ret w0 fun v l'=>v=.int .i64 now∧l'=Blk pc (.cells #[.int .i64 now,.int .i64 win] 154 (0,0))::l):=by
 refine calls_enter Tryz.func29 rfl rfl rfl hs ?_
 refine R7 ?_
 refine oq (op_eqnil Tryz.underlying76 rfl rfl) ?_
 refine Zi ?_
 refine R11 ?_
 exact Z2p
theorem CFirst_calls {w0 w:World} {l:List HProp} (pc:Nat) (now win:Int) (hs:Sat w0 w ((Blk pc (.cells #[.int .i64 now,.int .i64 win] 154 (0,0)))::l)) (h:0≤now∧now<1000) (h2:1≤win∧win≤64) :
  Calls Tryz.prog 33 #[.pointer (some ⟨pc,0,none⟩)] w (Ret w0 fun v l'=>v=.int .i64 (if now<win then 0 else now-win)∧l'=Blk pc (.cells #[.int .i64 now,.int .i64 win] 154 (0,0))::l):=by
 refine calls_enter Tryz.func33 rfl rfl rfl hs ?_
 refine R7 ?_
 refine oq (op_eqnil Tryz.underlying76 rfl rfl) ?_
 refine Zi ?_
 refine R3 ?_
 refine Zo ?_
 refine R9 ?_
 refine rg_q (wn_none rfl) (op_maxe (c:=if now<win then 0 else now-win) rfl rfl (by split<;>split<;>omega)) rfl rfl ?_
 refine Z1z ?_
 refine R1 ?_
 exact Z2p
theorem CBlock_calls {w0 w:World} {l:List HProp} (pc:Nat) (now win fin slot:Int) (hs:Sat w0 w ((Blk pc (.cells #[.int .i64 now,.int .i64 win] 154 (0,0)))::l))  :
  Calls Tryz.prog 165 #[.pointer (some ⟨pc,0,none⟩),.int .i64 fin,.int .i64 slot] w (Ret w0 fun v l'=>v=.bool (decide (fin<slot∧slot≤now))∧l'=Blk pc (.cells #[.int .i64 now,.int .i64 win] 154 (0,0))::l):=by
 refine calls_enter Tryz.func165 rfl rfl rfl hs ?_
 refine R6 ?_
 refine oq (op_nenil Tryz.underlying76 rfl rfl) ?_
 refine R1 ?_
 refine Z3f ?_
 refine Z3f ?_
 refine ol_q (wn_some rfl rfl rfl rfl rfl) (op_gt rfl rfl) rfl ?_
 refine Zr ?_
 refine R1 ?_
 refine ols 14 rfl ?_ ?_
 ·intro hb1 hp1
  refine Zv ?_
  refine Z3q ?_
  refine Z48 ?_
  refine ol_q (wn_some rfl rfl rfl hb1 rfl) (op_field fld_154_0 rfl) rfl ?_
  refine ol_q (wn_some rfl rfl rfl hb1 rfl) (op_ld 0 sc_3 rfl rfl rfl) rfl ?_
  refine Z6g ?_
  refine Zq ?_
  refine R4 ?_
  exact px_ret1 rfl (v:=.bool _) rfl (fun _ s=>s) ⟨congrArg Value.bool (by rw [Bool.eq_iff_iff];simp at *;omega),rfl⟩
 intro hb1 hp1
 refine Z2n ?_
 refine Z1e ?_
 refine Zf ?_
 refine R4 ?_
 exact px_ret1 rfl (v:=.bool _) rfl (fun _ s=>s) ⟨congrArg Value.bool (by rw [Bool.eq_iff_iff];simp at *;omega),rfl⟩
def PoolObj (pp:Nat) (most quota:Int) (L:List PItem):HProp:=ex fun x:Option Addr×Nat×List PItem=>match x with | (a,c,d)=>stars (pr (d.Perm L)::Blk pp (.cells #[.slice a d.length c,.int .i64 most,.int .i64 quota] 186 (0,0))::Row 159 encPItem (.slice a d.length c) d::[])
theorem Sat.poolOpen {w0 w:World} {l:List HProp} {pp:Nat} {most quota:Int} {L:List PItem} (s:Sat w0 w (PoolObj pp most quota L::l)):∃ a c d,d.Perm L∧Sat w0 w (Blk pp (.cells #[.slice a d.length c,.int .i64 most,.int .i64 quota] 186 (0,0))::Row 159 encPItem (.slice a d.length c) d::l):=by
 obtain ⟨⟨a,c,d⟩,s⟩:=Sat.ex_iff.1 s
 obtain ⟨h,s2⟩:=Sat.pr_iff.1 (Sat.stars_iff.1 s)
 exact ⟨a,c,d,h,s2⟩
theorem Sat.poolMk {w0 w:World} {l:List HProp} {pp:Nat} {most quota:Int} {L:List PItem} {a:Option Addr} {c m1 m2:Nat} {d:List PItem} (h:d.Perm L) (h1:m1=d.length) (h2:m2=d.length) (s:Sat w0 w (Blk pp (.cells #[.slice a m1 c,.int .i64 most,.int .i64 quota] 186 (0,0))::Row 159 encPItem (.slice a m2 c) d::l)):Sat w0 w (PoolObj pp most quota L::l):=by
 subst h1 h2
 exact Sat.ex_iff.2 ⟨(a,c,d),Sat.stars_iff.2 (Sat.pr_iff.2 ⟨h,s⟩)⟩
theorem PNew_calls {w0 w:World} {l:List HProp} (most quota:Int) (hs:Sat w0 w (l)) (h1:1≤most∧most≤64) (h2:1≤quota∧quota≤64) :
  Calls Tryz.prog 98 #[.int .i64 most,.int .i64 quota] w (Ret w0 fun v l'=>∃ pp,v=.pointer (some ⟨pp,0,none⟩)∧l'=PoolObj pp most quota []::l):=by
 refine calls_enter Tryz.func98 rfl rfl rfl hs ?_
 refine R9 ?_
 refine ols 7 rfl ?_ ?_
 ·intro hb1 hp1
  omega
 intro hb1 hp1
 refine Zv ?_
 refine Z3r ?_
 refine Zf ?_
 refine R1 ?_
 refine ols 11 rfl ?_ ?_
 ·intro hb2 hp2
  omega
 intro hb2 hp2
 refine Z2a ?_
 refine Z49 ?_
 refine Z1o ?_
 refine R1 ?_
 refine ols 15 rfl ?_ ?_
 ·intro hb3 hp3
  omega
 intro hb3 hp3
 refine Z2h ?_
 refine Z3g ?_
 refine Z1v ?_
 refine Z8 ?_ ?_
 ·intro hb4 hp4
  omega
 intro hb4 hp4
 refine R5 ?_
 refine oq (op_build (L:=[_,_,_]) (vs:=[(1,.int _ _),(2,.int _ _)]) bB_186 rfl ⟨⟨rfl,rfl⟩,⟨rfl,rfl⟩,trivial⟩ rfl) ?_
 refine Z19 ?_;intro bx1
 refine R4 ?_
 exact px_ret1 rfl (v:=.pointer _) (l':=PoolObj _ most quota []::l) rfl (fun _ s=>Sat.poolMk (d:=[]) (List.Perm.refl _) rfl rfl ((Sat.rowNil (E:=encPItem) (e:=159) s).pull 1)) ⟨_,rfl,rfl⟩
theorem LLen_calls {w0 w:World} {l:List HProp} (a:Option Addr) (n c:Nat) (hs:Sat w0 w (l))  :
  Calls Tryz.prog 90 #[.slice a n c] w (Ret w0 fun v l'=>v=.int .i64 n∧l'=l):=by
 refine calls_enter Tryz.func90 rfl rfl rfl hs ?_
 refine R6 ?_
 refine oq (op_len_slice Tryz.underlying184 rfl) ?_
 refine R4 ?_
 exact Z2p
theorem PLenR_calls {w0 w:World} {l:List HProp} (pp:Nat) (most quota:Int) (a:Option Addr) (c:Nat) (d:List PItem) (hs:Sat w0 w ((Blk pp (.cells #[.slice a d.length c,.int .i64 most,.int .i64 quota] 186 (0,0)))::(Row 159 encPItem (.slice a d.length c) d)::l))  :
  Calls Tryz.prog 43 #[.pointer (some ⟨pp,0,none⟩)] w (Ret w0 fun v l'=>v=.int .i64 d.length∧l'=Blk pp (.cells #[.slice a d.length c,.int .i64 most,.int .i64 quota] 186 (0,0))::Row 159 encPItem (.slice a d.length c) d::l):=by
 refine calls_enter Tryz.func43 rfl rfl rfl hs ?_
 refine R7 ?_
 refine Z4p ?_
 refine Z2o ?_
 refine oi (os_call cb_90 rfl (fun w s=>LLen_calls _ _ _  s )) ?_;rintro _ l ⟨rfl,rfl⟩
 refine R4 ?_
 exact Z2p
theorem PLen_calls {w0 w:World} {l:List HProp} (pp:Nat) (most quota:Int) (L:List PItem) (hs:Sat w0 w (PoolObj pp most quota L::l))  : Calls Tryz.prog 43 #[.pointer (some ⟨pp,0,none⟩)] w (Ret w0 fun v l'=>v=.int .i64 L.length∧l'=PoolObj pp most quota L::l):=by
 obtain ⟨a,c,d,hd,hs⟩:=hs.poolOpen
 refine (PLenR_calls pp most quota a c d hs).mono fun e w1 ⟨v,l1,he,hR,s⟩=>?_
 obtain ⟨rfl,rfl⟩:=hR
 exact ⟨_,_,he,⟨by rw [hd.length_eq],rfl⟩,Sat.poolMk hd rfl rfl s⟩
theorem OrNew_calls {w0 w:World} {l:List HProp} (most quota:Int) (hs:Sat w0 w (l)) (h1:1≤most∧most≤64) (h2:1≤quota∧quota≤64) :
  Calls Tryz.prog 46 #[.int .i64 most,.int .i64 quota] w (Ret w0 fun v l'=>∃ po pp,v=.pointer (some ⟨po,0,none⟩)∧l'=Blk po (.cells #[.pointer (some ⟨pp,0,none⟩)] 111 (0,0))::PoolObj pp most quota []::l):=by
 refine calls_enter Tryz.func46 rfl rfl rfl hs ?_
 refine R7 ?_
 refine oi (os_call cb_98 rfl (fun w s=>PNew_calls _ _  s (by omega) (by omega))) ?_;rintro _ _ ⟨pp1,rfl,rfl⟩
 refine R6 ?_
 refine Z4p ?_
 refine Zi ?_
 refine R4 ?_
 refine oq (op_build (L:=[_]) (vs:=[(0,.pointer _)]) bB_111 rfl ⟨⟨rfl,rfl⟩,trivial⟩ rfl) ?_
 refine Z19 ?_;intro bx1
 exact Za9
theorem OrLen_calls {w0 w:World} {l:List HProp} (po pp:Nat) (most quota:Int) (L:List PItem) (hs:Sat w0 w ((Blk po (.cells #[.pointer (some ⟨pp,0,none⟩)] 111 (0,0)))::(PoolObj pp most quota L)::l))  :
  Calls Tryz.prog 19 #[.pointer (some ⟨po,0,none⟩)] w (Ret w0 fun v l'=>v=.int .i64 L.length∧l'=Blk po (.cells #[.pointer (some ⟨pp,0,none⟩)] 111 (0,0))::PoolObj pp most quota L::l):=by
 refine calls_enter Tryz.func19 rfl rfl rfl hs ?_
 refine R7 ?_
 refine oq (op_eqnil Tryz.underlying59 rfl rfl) ?_
 refine Z2o ?_
 refine Z2 ?_
 refine oi (os_call cb_43 rfl (fun w s=>PLen_calls _ _ _ _  s )) ?_;rintro _ _ ⟨rfl,rfl⟩
 refine R4 ?_
 exact px_ret1 rfl (v:=.int _ _) rfl (fun _ s=>(s.pull 1)) ⟨rfl,rfl⟩
theorem EaNew_calls {w0 w:World} {l:List HProp} (most quota:Int) (hs:Sat w0 w (l)) (h1:1≤most∧most≤64) (h2:1≤quota∧quota≤64) :
  Calls Tryz.prog 47 #[.int .i64 most,.int .i64 quota] w (Ret w0 fun v l'=>∃ po pp,v=.pointer (some ⟨po,0,none⟩)∧l'=Blk po (.cells #[.pointer (some ⟨pp,0,none⟩)] 163 (0,0))::PoolObj pp most quota []::l):=by
 refine calls_enter Tryz.func47 rfl rfl rfl hs ?_
 refine R7 ?_
 refine oi (os_call cb_98 rfl (fun w s=>PNew_calls _ _  s (by omega) (by omega))) ?_;rintro _ _ ⟨pp1,rfl,rfl⟩
 refine R6 ?_
 refine Z4p ?_
 refine Zi ?_
 refine R4 ?_
 refine oq (op_build (L:=[_]) (vs:=[(0,.pointer _)]) bB_163 rfl ⟨⟨rfl,rfl⟩,trivial⟩ rfl) ?_
 refine Z19 ?_;intro bx1
 exact Za9
theorem EaLen_calls {w0 w:World} {l:List HProp} (po pp:Nat) (most quota:Int) (L:List PItem) (hs:Sat w0 w ((Blk po (.cells #[.pointer (some ⟨pp,0,none⟩)] 163 (0,0)))::(PoolObj pp most quota L)::l))  :
  Calls Tryz.prog 56 #[.pointer (some ⟨po,0,none⟩)] w (Ret w0 fun v l'=>v=.int .i64 L.length∧l'=Blk po (.cells #[.pointer (some ⟨pp,0,none⟩)] 163 (0,0))::PoolObj pp most quota L::l):=by
 refine calls_enter Tryz.func56 rfl rfl rfl hs ?_
 refine R7 ?_
 refine oq (op_eqnil Tryz.underlying77 rfl rfl) ?_
 refine Z2o ?_
 refine Z2 ?_
 refine oi (os_call cb_43 rfl (fun w s=>PLen_calls _ _ _ _  s )) ?_;rintro _ _ ⟨rfl,rfl⟩
 refine R4 ?_
 exact px_ret1 rfl (v:=.int _ _) rfl (fun _ s=>(s.pull 1)) ⟨rfl,rfl⟩
def M64:Nat:=18446744073709551616
def mul64 (x y:Nat):Nat×Nat :=
  ((((x / 2 ^ 32*(y / 2 ^ 32)) % 18446744073709551616+((x / 2 ^ 32*(y % 4294967296)) % 18446744073709551616+(x % 4294967296*(y % 4294967296)) % 18446744073709551616 / 2 ^ 32) % 18446744073709551616 / 2 ^ 32) % 18446744073709551616 +
    (((x / 2 ^ 32*(y % 4294967296)) % 18446744073709551616+(x % 4294967296*(y % 4294967296)) % 18446744073709551616 / 2 ^ 32) % 18446744073709551616 % 4294967296+(x % 4294967296*(y / 2 ^ 32)) % 18446744073709551616) % 18446744073709551616 / 2 ^ 32) % 18446744073709551616,
   (x*y) % 18446744073709551616)
theorem mul64_lt (x y:Nat):(mul64 x y).1<18446744073709551616∧(mul64 x y).2<18446744073709551616:=⟨Nat.mod_lt _ (by decide),Nat.mod_lt _ (by decide)⟩
def aboveM (x p:Nat) (power:Int):Bool :=
  if power=2 then decide (p<(mul64 x x).1) || (decide ((mul64 x x).1=p) && decide (0<(mul64 x x).2))
  else if ((mul64 (mul64 x x).1 x).1+((mul64 (mul64 x x).1 x).2+(mul64 (mul64 x x).2 x).1) / 18446744073709551616) % 18446744073709551616≠p / 2 ^ 32 then
    decide (p / 2 ^ 32<((mul64 (mul64 x x).1 x).1+((mul64 (mul64 x x).1 x).2+(mul64 (mul64 x x).2 x).1) / 18446744073709551616) % 18446744073709551616)
  else if ((mul64 (mul64 x x).1 x).2+(mul64 (mul64 x x).2 x).1) % 18446744073709551616≠p*2 ^ 32 % 18446744073709551616 then
    decide (p*2 ^ 32 % 18446744073709551616<((mul64 (mul64 x x).1 x).2+(mul64 (mul64 x x).2 x).1) % 18446744073709551616)
  else decide (0<(mul64 (mul64 x x).2 x).2)
def rootN (p:Nat) (power:Int):Nat→Nat
  | 0=>0
  | i+1=>if aboveM ((rootN p power i+1*2 ^ (39-i)) % 18446744073709551616) p power then rootN p power i else (rootN p power i+1*2 ^ (39-i)) % 18446744073709551616
theorem rootN_lt (p:Nat) (power:Int):∀ i,rootN p power i<18446744073709551616
  | 0=>Nat.zero_lt_succ _
  | i+1=>by
    rw [rootN]
    split
    · exact rootN_lt p power i
    · exact Nat.mod_lt _ (by decide)
theorem pow39 (i:Nat):1*2 ^ (39-i)<18446744073709551616:=by
  have:2 ^ (39-i)≤2 ^ 39:=Nat.pow_le_pow_right (by decide) (by omega)
  omega
theorem all_step {l:List Nat} {j:Nat} (f:Nat→Bool) (h:j<l.length):(l.take (j+1)).all f=((l.take j).all f && f l[j]):=by
  rw [List.take_succ_eq_append_getElem h,List.all_append]
  simp
def rootM (p:Nat) (power:Int):UInt32:=UInt32.ofNat (rootN p power 40 % 4294967296)
def PLs:Nat→List Nat
  | 0=>[]
  | i+1=>if (PLs i).all (fun p=>decide ((i+2) % p≠0)) then PLs i++[i+2] else PLs i
theorem PLs_step (i:Nat):PLs (i+1)=if (PLs i).all (fun p=>decide ((i+2) % p≠0)) then PLs i++[i+2] else PLs i:=rfl
theorem PLs_pre (i:Nat):∀ d,PLs i <+: PLs (i+d)
  | 0=>List.prefix_refl _
  | d+1=>by
    refine (PLs_pre i d).trans ?_
    rw [←Nat.add_assoc,PLs_step]
    split
    · exact List.prefix_append _ _
    · exact List.prefix_refl _
theorem PLs_rg (i:Nat):∀ p∈PLs i,2≤p∧p<i+2:=by
  induction i with
  | zero=>intro p h;cases h
  | succ i ih =>
    intro p h
    rw [PLs_step] at h
    split at h
    · rcases List.mem_append.1 h with h | h
      · have:=ih p h;omega
      · have:=List.mem_singleton.1 h;omega
    · have:=ih p h;omega
theorem PLs_64:(PLs 310).length=64:=by decide +kernel
def prm (n:Nat):List Nat:=(PLs 310).take n
theorem PLs_is {i n:Nat} (hi:i≤310) (h:(PLs i).length=n):PLs i=prm n:=by
  have:=List.prefix_iff_eq_take.1 (PLs_pre i (310-i))
  rw [show i+(310-i)=310 by omega,h] at this
  exact this
theorem PLs_len_le {i:Nat}:(PLs (i+1)).length≤(PLs i).length+1:=by
  rw [PLs_step]
  split<;>simp
theorem roots8:(prm 8).map (fun p=>rootM p 2)=H0:=by decide +kernel
theorem roots64:(prm 64).map (fun p=>rootM p 3)=K64:=by decide +kernel
theorem prm_len {n:Nat} (h:n≤64):(prm n).length=n:=by unfold prm;rw [List.length_take,PLs_64];omega
theorem root8_at {i:Nat} (h:i<(prm 8).length):rootM (prm 8)[i] 2=H0.getD i 0:=by
  rw [←roots8]
  simp [List.getD_eq_getElem?_getD,h]
theorem root64_at {i:Nat} (h:i<(prm 64).length):rootM (prm 64)[i] 3=K64.getD i 0:=by
  rw [←roots64]
  simp [List.getD_eq_getElem?_getD,h]
def fillN (N:Nat) (m:List UInt32):List UInt32:=m++List.replicate (N-m.length) 0
theorem fillN_len {N:Nat} {m:List UInt32} (h:m.length≤N):(fillN N m).length=N:=by simp [fillN];omega
theorem fillN_set {N:Nat} {m:List UInt32} (h:m.length<N) (u:UInt32):(fillN N m).set m.length u=fillN N (m++[u]):=by
  unfold fillN
  rw [List.set_append_right _ _ (Nat.le_refl _),Nat.sub_self,show N-m.length=(N-(m++[u]).length)+1 by simp;omega,List.replicate_succ,List.set_cons_zero,List.append_assoc]
  rfl
theorem fillN_full {N:Nat} {m:List UInt32} (h:m.length=N):fillN N m=m:=by unfold fillN;rw [h];simp
theorem fillN_st {N:Nat} {ws:List UInt32} {i:Nat} {u:UInt32} (hN:ws.length=N) (h:i<N) (hu:u=ws.getD i 0):(wC (fillN N (ws.take i))).toArray.setIfInBounds i (.int .u32 (u.toNat:Int))=(wC (fillN N (ws.take (i+1)))).toArray:=by
  have hl:(ws.take i).length=i:=by rw [List.length_take];omega
  have h1:=fillN_set (N:=N) (m:=ws.take i) (by omega) u
  rw [hl] at h1
  rw [wC_set0,h1]
  have h2:ws.take (i+1)=ws.take i++[u]:=by
    rw [List.take_succ_eq_append_getElem (by omega),hu]
    congr 2
    simp [List.getD_eq_getElem?_getD,show i<ws.length by omega]
  rw [h2]
theorem sch_take (l:List UInt32) (j:Nat):∀ d,(sch (j+d) l).take (j+l.length)=sch j l
  | 0=>by rw [Nat.add_zero,List.take_of_length_le (by rw [sch_len];exact Nat.le_refl _)]
  | d+1=>by
    rw [←Nat.add_assoc,sch,List.take_append_of_le_length (by rw [sch_len];omega)]
    exact sch_take l j d
theorem lay_lo (bs:List UInt8) {i:Nat} (h:i≤16):(layM bs).take i=w16 bs i:=by
  have h1:=sch_take (w16 bs 16) 0 48
  rw [w16_len] at h1
  have h2:(layM bs).take 16=w16 bs 16:=by unfold layM;simpa [sch] using h1
  have h3:(layM bs).take i=((layM bs).take 16).take i:=by rw [List.take_take,Nat.min_eq_left h]
  rw [h3,h2]
  unfold w16
  rw [←List.map_take,List.take_range,Nat.min_eq_left h]
theorem lay_hi (bs:List UInt8) {k:Nat} (h:k≤48):(layM bs).take (k+16)=sch k (w16 bs 16):=by
  have h1:=sch_take (w16 bs 16) k (48-k)
  rw [w16_len,show k+(48-k)=48 by omega] at h1
  exact h1
theorem lay_next (bs:List UInt8) {i:Nat} (h1:16≤i) (h2:i<64):(layM bs).take (i+1)=(layM bs).take i++[next16 ((layM bs).take i)]:=by
  obtain ⟨k,rfl⟩:∃ k,i=k+16:=⟨i-16,by omega⟩
  rw [show k+16+1=(k+1)+16 by omega,lay_hi bs (by omega),lay_hi bs (by omega)]
  rfl
theorem lay_first (bs:List UInt8) {i:Nat} (h:i<16):(layM bs).take (i+1)=(layM bs).take i++[word bs i]:=by
  rw [lay_lo bs (by omega),lay_lo bs (by omega),w16_succ]
def accW (bs:List UInt8) (i:Nat):Nat→UInt32
  | 0=>0
  | k+1=>accW bs i k*256+byteW bs (4*i+k)
theorem bytes_or (a b c d:Nat) (ha:a<256) (hb:b<256) (hc:c<256) (hd:d<256):(a*2 ^ 24 ||| b*2 ^ 16 ||| c*2 ^ 8 ||| d)=((a*256+b)*256+c)*256+d:=by
  have e1:a*2 ^ 24 ||| b*2 ^ 16=a*2 ^ 24+b*2 ^ 16:=by
    have:=Nat.two_pow_add_eq_or_of_lt (i:=24) (b:=b*2 ^ 16) (by omega) a
    rw [Nat.mul_comm (2 ^ 24) a] at this
    exact this.symm
  have e2:(a*2 ^ 24+b*2 ^ 16) ||| c*2 ^ 8=a*2 ^ 24+b*2 ^ 16+c*2 ^ 8:=by
    have:=Nat.two_pow_add_eq_or_of_lt (i:=16) (b:=c*2 ^ 8) (by omega) (a*2 ^ 8+b)
    rw [show 2 ^ 16*(a*2 ^ 8+b)=a*2 ^ 24+b*2 ^ 16 by omega] at this
    exact this.symm
  have e3:(a*2 ^ 24+b*2 ^ 16+c*2 ^ 8) ||| d=a*2 ^ 24+b*2 ^ 16+c*2 ^ 8+d:=by
    have:=Nat.two_pow_add_eq_or_of_lt (i:=8) (b:=d) (by omega) (a*2 ^ 16+b*2 ^ 8+c)
    rw [show 2 ^ 8*(a*2 ^ 16+b*2 ^ 8+c)=a*2 ^ 24+b*2 ^ 16+c*2 ^ 8 by omega] at this
    exact this.symm
  rw [e1,e2,e3]
  omega
theorem accW_word (bs:List UInt8) (i:Nat):accW bs i 4=word bs i:=by
  apply UInt32.toNat_inj.1
  have hb:∀ j,(byteW bs j).toNat<256:=fun j=>by
    unfold byteW
    have:=(bs.getD j 0).toNat_lt
    rw [UInt32.toNat_ofNat']
    omega
  have h0:=hb (4*i)
  have h1:=hb (4*i+1)
  have h2:=hb (4*i+2)
  have h3:=hb (4*i+3)
  unfold word shl32
  simp only [accW,Nat.add_zero,UInt32.toNat_or,UInt32.toNat_add,UInt32.toNat_mul,UInt32.toNat_ofNat']
  generalize (byteW bs (4*i)).toNat=a at *
  generalize (byteW bs (4*i+1)).toNat=b at *
  generalize (byteW bs (4*i+2)).toNat=c at *
  generalize (byteW bs (4*i+3)).toNat=d at *
  rw [Nat.mod_eq_of_lt (show a*2 ^ 24<2 ^ 32 by omega),Nat.mod_eq_of_lt (show b*2 ^ 16<2 ^ 32 by omega),Nat.mod_eq_of_lt (show c*2 ^ 8<2 ^ 32 by omega),bytes_or a b c d h0 h1 h2 h3]
  have e0:(0:UInt32).toNat=0:=rfl
  have e256:(256:UInt32).toNat=256:=rfl
  rw [e0,e256]
  omega
theorem fillA_zero {m:List UInt32} (h:m.length<64):fillA m=fillA (m++[0]):=by
  unfold fillA
  rw [show 64-m.length=(64-(m++[0]).length)+1 by simp;omega,List.replicate_succ,List.append_assoc]
  rfl
theorem fillA_last {m:List UInt32} {a:UInt32} {j:Nat} (hj:j=m.length):(wC (fillA (m++[a]))).toArray[j]? = some (.int .u32 (a.toNat:Int)):=by
  subst hj
  rw [fillA_at (by simp)]
  congr 3
  simp [List.getD_eq_getElem?_getD]
theorem fillA_re {m:List UInt32} {a:UInt32} {j:Nat} (hj:j=m.length) (h:m.length<64) (u:UInt32):(wC (fillA (m++[a]))).toArray.setIfInBounds j (.int .u32 (u.toNat:Int))=(wC (fillA (m++[u]))).toArray:=by
  subst hj
  rw [wC_set0]
  congr 2
  unfold fillA
  rw [List.append_assoc,List.set_append_right _ _ (Nat.le_refl _),Nat.sub_self,List.append_assoc]
  simp
def textM (s:List UInt8):List UInt8:=s++[128]++List.replicate (zpad (s.length % 64)) 0++be64 (s.length*8) 8
theorem textM_len (s:List UInt8):(textM s).length % 64=0:=by
  unfold textM
  simp only [List.length_append,List.length_replicate,be64_len,List.length_singleton]
  unfold zpad
  omega
theorem run8_last (T:List UInt8):∀ (i:Nat) (w:W8),run8 (i+1) w T=blk8 (run8 i w T) ((T.drop (64*i)).take 64)
  | 0,w=>by simp [run8]
  | i+1,w=>by
    generalize hT:T=T'
    subst hT
    show run8 (i+1) (blk8 w (T.take 64)) (T.drop 64)=_
    have e:∀ (j:Nat) (U:List UInt8) (u:W8),run8 (j+1) u U=blk8 (run8 j u U) ((U.drop (64*j)).take 64):=by
      intro j
      induction j with
      | zero=>intro U u;simp [run8]
      | succ j ih =>
        intro U u
        show run8 (j+1) (blk8 u (U.take 64)) (U.drop 64)=_
        rw [ih,List.drop_drop]
        rw [show 64+64*j=64*(j+1) by omega]
        rfl
    rw [e,List.drop_drop,show 64+64*i=64*(i+1) by omega]
    rfl
theorem shaM_text (s:List UInt8):shaM s=outR (run8 ((textM s).length / 64) H8 (textM s)):=by
  unfold shaM
  congr 1
  have h1:textM s=s++([128]++List.replicate (zpad (s.length % 64)) 0++be64 (s.length*8) 8):=by unfold textM;simp only [List.append_assoc]
  have h2:=(runs_append ([128]++List.replicate (zpad (s.length % 64)) 0++be64 (s.length*8) 8) _ s H8 rfl).1
  have h3:padM (left s) s.length=left s++([128]++List.replicate (zpad (s.length % 64)) 0++be64 (s.length*8) 8):=by unfold padM;rw [left_length];simp only [List.append_assoc]
  rw [h3,←h2,←h1]
  rfl
def outP (w:W8) (i:Nat):Root:=⟨(List.range 32).map fun j=>if j<i then byteOf w j else 0,by simp⟩
theorem outP_zero (w:W8):outP w 0=Root.zero:=by
  apply Subtype.ext
  refine List.ext_getElem (by simp [outP,Root.zero]) fun j h1 h2=>?_
  simp only [outP,Root.zero,List.getElem_map,List.getElem_range,List.getElem_replicate]
  rw [if_neg (by omega)]
theorem outP_succ (w:W8) {i:Nat} (h:i<32):outP w (i+1)=(outP w i).set i (byteOf w i):=by
  apply Subtype.ext
  refine List.ext_getElem (by simp [outP,Root.set]) fun j h1 h2=>?_
  simp only [outP,Root.set,List.getElem_set,List.getElem_map,List.getElem_range]
  by_cases e:i=j
  · subst e;rw [if_pos rfl,if_pos (by omega)]
  · rw [if_neg e]
    by_cases h3:j<i
    · rw [if_pos h3,if_pos (by omega)]
    · rw [if_neg h3,if_neg (by omega)]
theorem bl_cons (x:UInt8) (a b:List UInt8):Op.bytesLess (x::a) (x::b)=Op.bytesLess a b:=by
  have:¬ x<x:=fun h=>by have:=lt8.1 h;omega
  simp [Op.bytesLess,this]
theorem bl_at:∀ {i:Nat} {a b:List UInt8},i<a.length→i<b.length→(∀ j,j<i→a.getD j 0=b.getD j 0)→a.getD i 0≠b.getD i 0→Op.bytesLess a b=decide (a.getD i 0<b.getD i 0)
  | 0,x::a,y::b,_,_,_,h=>by
    simp only [List.getD_cons_zero] at h ⊢
    have h2:¬ (x=y):=h
    simp [Op.bytesLess,h2]
  | i+1,x::a,y::b,h1,h2,h3,h4=>by
    have e:x=y:=by simpa using h3 0 (by omega)
    subst e
    rw [bl_cons]
    simp only [List.getD_cons_succ] at h4 ⊢
    exact bl_at (by simpa using h1) (by simpa using h2) (fun j hj=>by simpa using h3 (j+1) (by omega)) h4
theorem root_ext {a b:Root} (h:∀ j,j<32→a.1.getD j 0=b.1.getD j 0):a=b:=by
  apply Subtype.ext
  refine List.ext_getElem (by rw [a.2,b.2]) fun j h1 h2=>?_
  have:=h j (by rw [a.2] at h1;exact h1)
  simpa [List.getD_eq_getElem?_getD,h1,h2] using this
theorem fill8:fillN 8 (H0.take 8)=H0:=rfl
theorem fill64:fillN 64 (K64.take 64)=K64:=by rw [List.take_of_length_le (by rw [K64_len];exact Nat.le_refl _),fillN_full K64_len]
theorem blk8_eq (h:W8) (s:List UInt8) {V:List UInt32} (hV:rnds (layM s) h.1 64=V):wC [h.1.getD 0 0+V.getD 0 0,h.1.getD 1 0+V.getD 1 0,h.1.getD 2 0+V.getD 2 0,h.1.getD 3 0+V.getD 3 0,h.1.getD 4 0+V.getD 4 0,h.1.getD 5 0+V.getD 5 0,h.1.getD 6 0+V.getD 6 0,h.1.getD 7 0+V.getD 7 0]=w8C (blk8 h s):=by
  unfold blk8
  rw [hV]
  rfl
theorem fill8_ok (v0 v1 v2 v3 v4 v5 v6 v7:Int):Instr.fill (fun i=>some (i*1,1)) ([.int .u32 0,.int .u32 0,.int .u32 0,.int .u32 0,.int .u32 0,.int .u32 0,.int .u32 0,.int .u32 0]:List Value).toArray [(0,.int .u32 v0),(1,.int .u32 v1),(2,.int .u32 v2),(3,.int .u32 v3),(4,.int .u32 v4),(5,.int .u32 v5),(6,.int .u32 v6),(7,.int .u32 v7)]=some ([.int .u32 v0,.int .u32 v1,.int .u32 v2,.int .u32 v3,.int .u32 v4,.int .u32 v5,.int .u32 v6,.int .u32 v7]:List Value).toArray:=by
  simp [Instr.fill,Value.cells]
theorem Less_calls {w0 w:World} {l:List HProp} (a b:Root) (hs:Sat w0 w (l))  :
  Calls Tryz.prog 146 #[.agg (rootC a).toArray,.agg (rootC b).toArray] w (Ret w0 fun v l'=>v=.bool (Op.bytesLess a.1 b.1)∧l'=l):=by
 refine calls_enter Tryz.func146 rfl rfl rfl hs ?_
 refine Z1s ?_;intro bx1 bx2
 refine R4 ?_
 refine Zo ?_
 refine rg_q (wn_none rfl) (op_slicea_all a1_35 rfl) rfl rfl ?_
 refine rg_q (wn_none rfl) (op_b2s sB_97 Tryz.underlying5 Tryz.underlying9 rfl (rds_root 1 rfl) (root_len _)) rfl rfl ?_
 refine rg_q (wn_none rfl) (op_slicea_all a1_35 rfl) rfl rfl ?_
 refine rg_q (wn_none rfl) (op_b2s sB_97 Tryz.underlying5 Tryz.underlying9 rfl (rds_root 0 rfl) (root_len _)) rfl rfl ?_
 refine rg_q (wn_none rfl) (op_slss rfl rfl) rfl rfl ?_
 refine Z1z ?_
 refine R1 ?_
 exact px_ret1 rfl (v:=.bool _) rfl (fun _ s=>((s.del 1).del 0)) ⟨rfl,rfl⟩
theorem RLess_calls {w0 w:World} {l:List HProp} (a b:Root) (hs:Sat w0 w (l))  :
  Calls Tryz.prog 35 #[.agg (rootC a).toArray,.agg (rootC b).toArray] w (Ret w0 fun v l'=>v=.bool (Op.bytesLess a.1 b.1)∧l'=l):=by
 refine calls_enter Tryz.func35 rfl rfl rfl hs ?_
 refine Z1s ?_;intro bx1 bx2
 refine R9 ?_
 refine cd_loop2 (α:=Nat) [(4,23)] (fun x=>[(6,.int .i64 (x:Int))]) (fun _=>_) (fun x=>x≤32∧∀ q,q<x→a.1.getD q 0=b.1.getD q 0) (fun x=>32-x) 0 ⟨Nat.zero_le _,fun q h=>absurd h (Nat.not_lt_zero _)⟩ ⟨rfl,trivial⟩ (fun _ s=>s) ?_
 rintro i ⟨hi,hno⟩ f;(try dsimp only at hi hno ⊢)
 refine Z3 ?_ ?_
 ·intro hb1 hp1
  have hi32:i<32:=by omega
  refine R10 ?_
  refine Zo ?_
  refine R1 ?_
  refine Z7j ?_
  refine rg_q (wn_none rfl) (op_ld 1 sc_5 rfl rfl (rootC_gd _ hi32)) rfl rfl ?_
  refine R1 ?_
  refine Z7j ?_
  refine rg_q (wn_none rfl) (op_ld 0 sc_5 rfl rfl (rootC_gd _ hi32)) rfl rfl ?_
  refine Z1z ?_
  refine Z4 ?_ ?_
  ·intro hb2 hp2
   have hne:a.1.getD i 0≠b.1.getD i 0:=fun h=>by rw [h] at hb2;simp at hb2
   refine R1 ?_
   refine Zo ?_
   refine R1 ?_
   refine Z7j ?_
   refine rg_q (wn_none rfl) (op_ld 1 sc_5 rfl rfl (rootC_gd _ hi32)) rfl rfl ?_
   refine R1 ?_
   refine Z7j ?_
   refine rg_q (wn_none rfl) (op_ld 0 sc_5 rfl rfl (rootC_gd _ hi32)) rfl rfl ?_
   refine R2 ?_
   refine Zu ?_
   refine R6 ?_
   exact px_ret1 rfl (v:=.bool _) rfl (fun _ s=>((s.del 1).del 0)) ⟨congrArg Value.bool (by rw [bl_at (by rw [a.2];omega) (by rw [b.2];omega) hno hne];exact decide_eq_decide.2 ⟨fun h=>lt8.2 (by omega),fun h=>by have:=lt8.1 h;omega⟩),rfl⟩
  intro hb2 hp2
  have hne:a.1.getD i 0=b.1.getD i 0:=UInt8.toNat_inj.1 (by simp at hb2;omega)
  refine R7 ?_
  refine px_loop2 (i+1) ⟨by omega,fun q h2=>by rcases Nat.lt_succ_iff_lt_or_eq.1 h2 with h3 | h3;exact hno q h3;subst h3;exact hne⟩ (by (try dsimp only);omega) ⟨congrArg (Value.int .i64) (by simp),trivial⟩ ?_ (fun _ s=>s)
  exact Z0
 intro hb1 hp1
 refine R10 ?_
 exact px_ret1 rfl (v:=.bool _) rfl (fun _ s=>((s.del 1).del 0)) ⟨congrArg Value.bool (by rw [root_ext (a:=a) (b:=b) (fun j hj=>hno j (by omega)),bl_irrefl]),rfl⟩
def befI (a b:PItem):Bool:=decide (a.slot<b.slot) || (decide (a.slot=b.slot) && Op.bytesLess a.root.1 b.root.1)
theorem idx_more {d:List PItem} {r:Root} {i:Nat} (h:i<d.length) (hn:d[i].root≠r) (hno:∀ q (h:q<d.length),q<i→d[q].root≠r):∀ q (h:q<d.length),q<i+1→d[q].root≠r:=fun q h1 h2=>by
 rcases Nat.lt_succ_iff_lt_or_eq.1 h2 with h3 | h3
 ·exact hno q h1 h3
 ·subst h3;exact hn
theorem Before_calls {w0 w:World} {l:List HProp} (a b:PItem) (hs:Sat w0 w (l))  :
  Calls Tryz.prog 157 #[.agg (pItemC a).toArray,.agg (pItemC b).toArray] w (Ret w0 fun v l'=>v=.bool (befI a b)∧l'=l):=by
 refine calls_enter Tryz.func157 rfl rfl rfl hs ?_
 refine Z1s ?_;intro bx1 bx2
 refine R10 ?_
 refine ols 10 rfl ?_ ?_
 ·intro hb1 hp1
  refine Z2n ?_
  refine Z1e ?_
  refine Z47 ?_
  refine Z47 ?_
  refine Z4a ?_
  refine Z24 ?_
  refine Zq ?_
  refine R4 ?_
  exact Z8w
 intro hb1 hp1
 refine ol_q (wn_some rfl rfl rfl hb1 rfl) (op_field fld_159_0 rfl) rfl ?_
 refine ol_q (wn_some rfl rfl rfl hb1 rfl) (op_ld 1 sc_3 rfl rfl (pItemC_a0 _)) rfl ?_
 refine ol_q (wn_some rfl rfl rfl hb1 rfl) (op_field fld_159_0 rfl) rfl ?_
 refine ol_q (wn_some rfl rfl rfl hb1 rfl) (op_ld 0 sc_3 rfl rfl (pItemC_a0 _)) rfl ?_
 refine ol_q (wn_some rfl rfl rfl hb1 rfl) (op_eq rfl rfl) rfl ?_
 refine ol_q (wn_some rfl rfl rfl hb1 rfl) (op_move (v:=.bool _) rfl) rfl ?_
 refine ols 16 rfl ?_ ?_
 ·intro hb2 hp2
  refine ol_q (wn_some rfl rfl rfl hb2 rfl) (op_field fld_159_1 rfl) rfl ?_
  refine ol_q (wn_some rfl rfl rfl hb2 rfl) (op_lda (L:=rootC _) 1 ag_35 rfl rfl (pItemC_af1 _) (by simp [pItemC_len])) rfl ?_
  refine ol_q (wn_some rfl rfl rfl hb2 rfl) (op_field fld_159_1 rfl) rfl ?_
  refine ol_q (wn_some rfl rfl rfl hb2 rfl) (op_lda (L:=rootC _) 0 ag_35 rfl rfl (pItemC_af1 _) (by simp [pItemC_len])) rfl ?_
  refine ol_i (wn_some rfl rfl rfl hb2 rfl) (os_call cb_146 rfl (fun w s=>Less_calls _ _  s )) rfl ?_;rintro _ _ ⟨rfl,rfl⟩
  refine ol_q (wn_some rfl rfl rfl hb1 rfl) (op_pick_t (v:=.bool _) rfl hb2 rfl) rfl ?_
  refine Zf ?_
  refine R4 ?_
  exact Z8w
 intro hb2 hp2
 refine Zx ?_
 refine Zx ?_
 refine Z3s ?_
 refine ol_q (wn_some rfl rfl rfl hb1 rfl) (op_pick_f (v:=.bool _) rfl hb2 rfl) rfl ?_
 refine Zf ?_
 refine R4 ?_
 exact Z8w
theorem HasC_calls {w0 w:World} {l:List HProp} (rb:Nat) (r:Root) (x:PItem) (hs:Sat w0 w ((Blk rb (.cells (rootC r).toArray 35 (0,0)))::l))  :
  Calls Tryz.prog 195 #[.agg (pItemC x).toArray,.pointer (some ⟨rb,0,none⟩)] w (Ret w0 fun v l'=>v=.bool (decide (x.root=r))∧l'=Blk rb (.cells (rootC r).toArray 35 (0,0))::l):=by
 refine calls_enter Tryz.func195 rfl rfl rfl hs ?_
 refine Z5 ?_;intro bx1
 refine R7 ?_
 refine oq (op_eqroot _ _ rB_35 rfl rfl) ?_
 refine R4 ?_
 exact Z4q
theorem OfC_calls {w0 w:World} {l:List HProp} (rb:Nat) (r:Root) (x:PItem) (hs:Sat w0 w ((Blk rb (.cells (rootC r).toArray 35 (0,0)))::l))  :
  Calls Tryz.prog 193 #[.agg (pItemC x).toArray,.pointer (some ⟨rb,0,none⟩)] w (Ret w0 fun v l'=>v=.bool (decide (x.par=r))∧l'=Blk rb (.cells (rootC r).toArray 35 (0,0))::l):=by
 refine calls_enter Tryz.func193 rfl rfl rfl hs ?_
 refine Z5 ?_;intro bx1
 refine R7 ?_
 refine oq (op_eqroot _ _ rB_35 rfl rfl) ?_
 refine R4 ?_
 exact Z4q
theorem IdxHas_calls {w0 w:World} {l:List HProp} (a:Option Addr) (c:Nat) (d:List PItem) (rb:Nat) (r:Root) (hs:Sat w0 w ((Blk rb (.cells (rootC r).toArray 35 (0,0)))::l)) (hr:Rds w0 l encPItem a d) (hdl:d.length≤1000) :
  Calls Tryz.prog 220 #[.slice a d.length c,.func (.func 195) #[] #[.pointer (some ⟨rb,0,none⟩)]] w (Ret w0 fun v l'=>∃ k:Int,v=.int .i64 k∧(0≤k↔∃ x∈d,x.root=r)∧l'=Blk rb (.cells (rootC r).toArray 35 (0,0))::l):=by
 refine calls_enter Tryz.func220 rfl rfl rfl hs ?_
 refine R7 ?_
 refine oq (op_len_slice Tryz.underlying184 rfl) ?_
 refine R4 ?_
 refine cd_loop2 (α:=Nat) [(4,5),(8,18)] (fun x=>[(8,.int .i64 (x:Int))]) (fun _=>_) (fun x=>x≤d.length∧∀ q (h:q<d.length),q<x→d[q].root≠r) (fun x=>d.length-x) 0 ⟨Nat.zero_le _,fun q _ h=>absurd h (Nat.not_lt_zero _)⟩ ⟨rfl,trivial⟩ (fun _ s=>s) ?_
 rintro i ⟨hi,hno⟩ f;(try dsimp only at hi hno ⊢)
 refine Z3 ?_ ?_
 ·intro hb1 hp1
  have hi1:i<d.length:=by omega
  refine R10 ?_
  refine Z4r ?_
  refine R2 ?_
  refine oq (op_index i sB_184 rfl rfl rfl (hr.cons _) rfl (by omega)) ?_
  refine oq (op_ldaw (L:=pItemC _) ag_159 (hr.cons _) rfl (by omega) rfl (pItemC_ta _)) ?_
  refine oi (os_callv (C:=[_]) (vs:=[_]) cb_195 rfl rfl (fun w s=>HasC_calls _ _ _  s )) ?_;rintro _ _ ⟨rfl,rfl⟩
  refine Z8 ?_ ?_
  ·intro hb2 hp2
   have hq:d[i].root=r:=by simpa using hb2
   refine R11 ?_
   exact px_ret1 rfl (v:=.int _ _) rfl (fun _ s=>s) ⟨_,rfl,⟨fun _=>⟨_,List.getElem_mem hi1,hq⟩,fun _=>by omega⟩,rfl⟩
  intro hb2 hp2
  have hq:d[i].root≠r:=by simpa using hb2
  refine R7 ?_
  refine px_loop2 (i+1) ⟨by omega,idx_more hi1 hq hno⟩ (by (try dsimp only);omega) ⟨congrArg (Value.int .i64) (by simp),trivial⟩ ?_ (fun _ s=>s)
  exact Z0
 intro hb1 hp1
 have hie:i=d.length:=by omega
 refine R10 ?_
 exact px_ret1 rfl (v:=.int _ _) rfl (fun _ s=>s) ⟨_,rfl,⟨fun h=>absurd h (by decide),fun ⟨x,hx,hxr⟩=>by obtain ⟨q,hq1,hq2⟩:=List.mem_iff_getElem.1 hx;exact absurd (by rw [hq2];exact hxr) (hno q hq1 (by omega))⟩,rfl⟩
theorem ConHas_calls {w0 w:World} {l:List HProp} (a:Option Addr) (c:Nat) (d:List PItem) (rb:Nat) (r:Root) (hs:Sat w0 w ((Blk rb (.cells (rootC r).toArray 35 (0,0)))::l)) (hr:Rds w0 l encPItem a d) (hdl:d.length≤1000) :
  Calls Tryz.prog 194 #[.slice a d.length c,.func (.func 195) #[] #[.pointer (some ⟨rb,0,none⟩)]] w (Ret w0 fun v l'=>v=.bool (decide (∃ x∈d,x.root=r))∧l'=Blk rb (.cells (rootC r).toArray 35 (0,0))::l):=by
 refine calls_enter Tryz.func194 rfl rfl rfl hs ?_
 refine R6 ?_
 refine Z4r ?_
 refine oi (os_call cb_220 rfl (fun w s=>IdxHas_calls _ _ _ _ _  s hr (by omega))) ?_;rintro _ _ ⟨k1,rfl,hk1,rfl⟩
 refine R5 ?_
 exact px_ret1 rfl (v:=.bool _) rfl (fun _ s=>s) ⟨congrArg Value.bool (decide_eq_decide.2 hk1),rfl⟩
theorem PHasR_calls {w0 w:World} {l:List HProp} (pp:Nat) (most quota:Int) (a:Option Addr) (c:Nat) (d:List PItem) (r:Root) (hs:Sat w0 w ((Blk pp (.cells #[.slice a d.length c,.int .i64 most,.int .i64 quota] 186 (0,0)))::(Row 159 encPItem (.slice a d.length c) d)::l)) (hL:d.length≤1000) :
  Calls Tryz.prog 170 #[.pointer (some ⟨pp,0,none⟩),.agg (rootC r).toArray] w (Ret w0 fun v l'=>v=.bool (decide (∃ x∈d,x.root=r))∧l'=Blk pp (.cells #[.slice a d.length c,.int .i64 most,.int .i64 quota] 186 (0,0))::Row 159 encPItem (.slice a d.length c) d::l):=by
 refine calls_enter Tryz.func170 rfl rfl rfl hs ?_
 refine Z5 ?_;intro bx1
 refine R5 ?_
 refine oq (op_nenil Tryz.underlying109 rfl rfl) ?_
 refine R1 ?_
 refine Z6e ?_
 refine Z6f ?_
 refine ol_q (wn_some rfl rfl rfl rfl rfl) (op_field fld_186_0 rfl) rfl ?_
 refine ol_q (wn_some rfl rfl rfl rfl rfl) (op_ld 1 sc_184 rfl rfl rfl) rfl ?_
 refine ol_q (wn_some rfl rfl rfl rfl rfl) (op_makefunc (F:=[]) (C:=[_]) rfl rfl) rfl ?_
 refine ol_i (wn_some rfl rfl rfl rfl rfl) (os_call cb_194 rfl (fun w s=>ConHas_calls _ _ _ _ _  s (rds_row 1 rfl rfl) (by omega))) rfl ?_;rintro _ _ ⟨rfl,rfl⟩
 refine Zr ?_
 refine R4 ?_
 exact Z4q
theorem PHas_calls {w0 w:World} {l:List HProp} (pp:Nat) (most quota:Int) (L:List PItem) (r:Root) (hs:Sat w0 w (PoolObj pp most quota L::l)) (hL:L.length≤1000):Calls Tryz.prog 170 #[.pointer (some ⟨pp,0,none⟩),.agg (rootC r).toArray] w (Ret w0 fun v l'=>v=.bool (decide (∃ x∈L,x.root=r))∧l'=PoolObj pp most quota L::l):=by
 obtain ⟨a,c,d,hd,hs⟩:=hs.poolOpen
 refine (PHasR_calls pp most quota a c d r hs (by have:=hd.length_eq;omega)).mono fun e w1 ⟨v,l1,he,hR,s⟩=>?_
 obtain ⟨rfl,rfl⟩:=hR
 exact ⟨_,_,he,⟨congrArg Value.bool (decide_eq_decide.2 ⟨fun ⟨x,h1,h2⟩=>⟨x,hd.mem_iff.1 h1,h2⟩,fun ⟨x,h1,h2⟩=>⟨x,hd.mem_iff.2 h1,h2⟩⟩),rfl⟩,Sat.poolMk hd rfl rfl s⟩
def swpI (d:List PItem) (i k:Nat):List PItem:=(d.set i (d.getD k PItem.zero)).set k (d.getD i PItem.zero)
theorem swpI_perm (d:List PItem) {i k:Nat} (hi:i<d.length) (hk:k<d.length):(swpI d i k).Perm d:=by
 unfold swpI
 rw [List.getD_eq_getElem?_getD,List.getD_eq_getElem?_getD,List.getElem?_eq_getElem hi,List.getElem?_eq_getElem hk,Option.getD_some,Option.getD_some]
 exact List.set_set_perm hi hk
theorem swpI_len (d:List PItem) (i k:Nat):(swpI d i k).length=d.length:=by unfold swpI;rw [List.length_set,List.length_set]
theorem half_down (j:Nat):∃ i:Nat,((j:Int)-1).tdiv 2=(i:Int)∧(j=0→i=0)∧(0<j→i<j):=by
 rcases Nat.eq_zero_or_pos j with h | h
 ·subst h;exact ⟨0,rfl,fun _=>rfl,fun h=>absurd h (by omega)⟩
 ·refine ⟨(j-1) / 2,?_,fun h2=>absurd h2 (by omega),fun _=>by omega⟩
  rw [show (j:Int)-1=((j-1:Nat):Int) by omega,Int.tdiv_eq_ediv_of_nonneg (by omega)];rfl
theorem LLess_calls {w0 w:World} {l:List HProp} (a:Option Addr) (c:Nat) (d:List PItem) (i k:Nat) (hs:Sat w0 w (l)) (hi:i<d.length) (hk:k<d.length) (hr:Rds w0 l encPItem a d) :
  Calls Tryz.prog 275 #[.slice a d.length c,.int .i64 (i:Int),.int .i64 (k:Int)] w (Ret w0 fun v l'=>v=.bool (befI (d.getD k PItem.zero) (d.getD i PItem.zero))∧l'=l):=by
 have e1:d.getD i PItem.zero=d[i]:=by simp [List.getD_eq_getElem?_getD,hi]
 have e2:d.getD k PItem.zero=d[k]:=by simp [List.getD_eq_getElem?_getD,hk]
 rw [e1,e2]
 refine calls_enter Tryz.func275 rfl rfl rfl hs ?_
 refine R5 ?_
 refine Zo ?_
 refine R2 ?_
 refine Zc9 ?_
 refine R2 ?_
 refine Zc9 ?_
 refine rg_soft (wn_none rfl) cb_157 ci_157 (fun M=>os_call cb_157 rfl (fun w s=>Before_calls _ _  s )) ?_
 refine Z1z ?_
 refine R1 ?_
 exact px_ret1 rfl (v:=.bool _) rfl (fun _ s=>s) ⟨rfl,rfl⟩
theorem LSwap_calls {w0 w:World} {l:List HProp} (a:Option Addr) (c:Nat) (d:List PItem) (i k:Nat) (hs:Sat w0 w ((Row 159 encPItem (.slice a d.length c) d)::l)) (hi:i<d.length) (hk:k<d.length) :
  Calls Tryz.prog 276 #[.slice a d.length c,.int .i64 (i:Int),.int .i64 (k:Int)] w (Ret w0 fun v l'=>v=.tuple #[]∧l'=Row 159 encPItem (.slice a d.length c) (swpI d i k)::l):=by
 have e1:d.getD i PItem.zero=d[i]:=by simp [List.getD_eq_getElem?_getD,hi]
 have e2:d.getD k PItem.zero=d[k]:=by simp [List.getD_eq_getElem?_getD,hk]
 unfold swpI
 rw [e1,e2]
 refine calls_enter Tryz.func276 rfl rfl rfl hs ?_
 refine cd_drawe (M:=[_]) mx [6,7,10,11,12,13,14,15] ?_
 refine Z7k ?_
 refine Z4s ?_
 refine e_q 2 rfl (wn_none rfl) (op_move (v:=.slice _ _ _) rfl) ?_
 refine Z6h ?_
 refine e_q 4 rfl (wn_none rfl) (op_move (v:=.slice _ _ _) rfl) ?_
 refine Z59 ?_
 refine e_q 8 rfl (wn_none rfl) (op_move (v:=.slice _ _ _) rfl) ?_
 refine e_q 9 rfl (wn_none rfl) (op_move (v:=.int _ _) rfl) ?_
 refine et_2 (i1:=6) (i2:=10) (by kernel_rfl) ?_ ?_
 ·
  refine Z2q ?_
  refine et_2 (i1:=7) (i2:=10) (by kernel_rfl) ?_ ?_
  ·
   refine Z2r ?_
   refine Z1c ?_
   refine Z2q ?_
   refine Z2b ?_
   refine Z2r ?_
   refine Zj ?_
   refine Z2q ?_
   refine Z1a ?_
   refine Z5a ?_
   refine Z3h ?_
   refine Z5b ?_
   refine Z2s ?_
   refine Z5c ?_
   refine Z2t ?_
   exact Z5d
  refine Z2q ?_
  refine Z2c ?_ ?_
  ·
   refine Z2r ?_
   refine Z2b ?_
   refine Z2r ?_
   refine Zj ?_
   refine Z2q ?_
   refine Z1a ?_
   refine Z5a ?_
   refine Z3h ?_
   refine Z5b ?_
   refine Z2s ?_
   refine Z5c ?_
   refine Z2t ?_
   exact Z5d
  refine Z2r ?_
  refine Zc ?_
  refine Z2r ?_
  refine Zj ?_
  refine Z2q ?_
  refine Z1a ?_
  refine Z5a ?_
  refine Z3h ?_
  refine Z5b ?_
  refine Z2s ?_
  refine Z5c ?_
  refine Z2t ?_
  exact Z5d
 refine Z2q ?_
 refine et_2 (i1:=6) (i2:=11) (by kernel_rfl) ?_ ?_
 ·
  refine Z2q ?_
  refine Z2c ?_ ?_
  ·
   refine Z2r ?_
   refine Z2b ?_
   refine Z2r ?_
   refine Zj ?_
   refine Z2q ?_
   refine Z1a ?_
   refine Z5a ?_
   refine Z3h ?_
   refine Z5b ?_
   refine Z2s ?_
   refine Z5c ?_
   refine Z2t ?_
   exact Z5d
  refine Z2r ?_
  refine Zc ?_
  refine Z2r ?_
  refine Zj ?_
  refine Z2q ?_
  refine Z1a ?_
  refine Z5a ?_
  refine Z3h ?_
  refine Z5b ?_
  refine Z2s ?_
  refine Z5c ?_
  refine Z2t ?_
  exact Z5d
 refine Z2r ?_
 refine Zs ?_
 refine Z2q ?_
 refine Zc ?_
 refine Z2r ?_
 refine Zj ?_
 refine Z2q ?_
 refine Z1a ?_
 refine Z5a ?_
 refine Z3h ?_
 refine Z5b ?_
 refine Z2s ?_
 refine Z5c ?_
 refine Z2t ?_
 exact Z5d
theorem LPush_calls {w0 w:World} {l:List HProp} (pp:Nat) (most quota:Int) (a:Option Addr) (c:Nat) (d:List PItem) (x:PItem) (hs:Sat w0 w ((Blk pp (.cells #[.slice a d.length c,.int .i64 most,.int .i64 quota] 186 (0,0)))::(Row 159 encPItem (.slice a d.length c) d)::l)) (hd:d.length≤1000) :
  Calls Tryz.prog 279 #[.pointer (some ⟨pp,0,none⟩),.iface 159 (.agg (pItemC x).toArray)] w (Ret w0 fun v l'=>∃ a2 c2,v=.tuple #[]∧l'=Blk pp (.cells #[.slice a2 (d++[x]).length c2,.int .i64 most,.int .i64 quota] 186 (0,0))::Row 159 encPItem (.slice a2 (d++[x]).length c2) (d++[x])::l):=by
 refine calls_enter Tryz.func279 rfl rfl rfl hs ?_
 refine cd_pull1 ?_
 refine cd_pull1 ?_
 refine cd_drawe (M:=[_,_]) mx [3,6,7,9] ?_
 refine Z4t ?_
 refine Z7l ?_
 refine e_q 2 rfl (wn_none rfl) (op_nilck rfl) ?_
 refine e_q 4 rfl (wn_none rfl) (op_move (v:=_) rfl) ?_
 refine e_q 5 rfl (wn_none rfl) (op_tassert Tryz.underlying159 rfl rfl) ?_
 refine et_2 (i1:=3) (i2:=6) (by kernel_rfl) ?_ ?_
 ·
  refine ei_i rfl rfl (wn_none rfl) (os_q (op_ld 0 sc_184 rfl rfl rfl)) rfl ?_;rintro _ _ ⟨rfl,rfl⟩;refine ⟨[_,_],rfl,?_⟩
  refine Zs ?_
  refine ei_i rfl rfl (wn_none rfl) (os_bslice (E:=encPItem) [_] (ys:=[x]) sB_184 zv_159 rfl rfl rfl rfl (by decide)) rfl ?_;rintro _ _ ⟨ao1,rfl,rfl⟩;refine ⟨[_,_,_],rfl,?_⟩
  refine Zc ?_
  refine Zaa ?_;intro ao2 ac2
  refine e_q 8 rfl (wn_none rfl) (op_nilck rfl) ?_
  refine Z15 ?_
  refine Zab ?_
  refine Z2t ?_
  exact px_end0 rfl (fun _ s=>(s.del 2)) ⟨_,_,rfl,rfl⟩
 refine ei_i rfl rfl (wn_none rfl) (os_bslice (E:=encPItem) [_] (ys:=[x]) sB_184 zv_159 rfl rfl rfl rfl (by decide)) rfl ?_;rintro _ _ ⟨ao3,rfl,rfl⟩;refine ⟨[_,_,_],rfl,?_⟩
 refine Z3t ?_
 refine ei_i rfl rfl (wn_none rfl) (os_q (op_ld 1 sc_184 rfl rfl rfl)) rfl ?_;rintro _ _ ⟨rfl,rfl⟩;refine ⟨[_,_,_],rfl,?_⟩
 refine Zc ?_
 refine Zaa ?_;intro ao4 ac4
 refine e_q 8 rfl (wn_none rfl) (op_nilck rfl) ?_
 refine Z15 ?_
 refine Zab ?_
 refine Z2t ?_
 exact px_end0 rfl (fun _ s=>(s.del 2)) ⟨_,_,rfl,rfl⟩
theorem HUp_calls {w0 w:World} {l:List HProp} (pp:Nat) (most quota:Int) (a:Option Addr) (c:Nat) (d:List PItem) (j:Nat) (hs:Sat w0 w ((Blk pp (.cells #[.slice a d.length c,.int .i64 most,.int .i64 quota] 186 (0,0)))::(Row 159 encPItem (.slice a d.length c) d)::l)) (hj:j<d.length) (hd:d.length≤1000) :
  Calls Tryz.prog 196 #[.iface 227 (.pointer (some ⟨pp,0,none⟩)),.int .i64 (j:Int)] w (Ret w0 fun v l'=>∃ d2:List PItem,d2.Perm d∧v=.tuple #[]∧l'=Blk pp (.cells #[.slice a d2.length c,.int .i64 most,.int .i64 quota] 186 (0,0))::Row 159 encPItem (.slice a d2.length c) d2::l):=by
 refine calls_enter Tryz.func196 rfl rfl rfl hs ?_
 refine R1 ?_
 refine cd_loop2 (α:=Nat×List PItem) [(1,1),(4,22)] (fun x=>[(1,.int .i64 (x.1:Int))]) (fun x=>Blk pp (.cells #[.slice a x.2.length c,.int .i64 most,.int .i64 quota] 186 (0,0))::Row 159 encPItem (.slice a x.2.length c) x.2::l) (fun x=>x.1<x.2.length∧x.2.Perm d) (fun x=>x.1) (j,d) ⟨hj,List.Perm.refl _⟩ ⟨rfl,trivial⟩ (fun _ s=>s) ?_
 rintro ⟨j,d2⟩ ⟨hj,hpm⟩ f;(try dsimp only at hj hpm ⊢)
 have hdl:=hpm.length_eq
 obtain ⟨i,hi1,hi2,hi3⟩:=half_down j
 refine R4 ?_
 refine oq (op_quoe (c:=i) rfl rfl hi1 (by omega) (by omega)) ?_
 refine R9 ?_
 refine ols 11 rfl ?_ ?_
 ·intro hb1 hp1
  refine Z2n ?_
  refine Z24 ?_
  refine Zq ?_
  refine Zh ?_
  refine Z57 ?_
  refine R2 ?_
  exact px_end0 rfl (fun _ s=>s) ⟨d2,hpm,rfl,rfl⟩
 intro hb1 hp1
 refine ol_q (wn_some rfl rfl rfl hb1 rfl) (op_move (v:=_) rfl) rfl ?_
 refine Zv ?_
 refine Zv ?_
 refine ol_i (wn_some rfl rfl rfl hb1 rfl) (os_invV 0 me_227_Less Tryz.underlying227 sc_184 cb_275 rfl rfl rfl rfl (fun w s=>LLess_calls _ _ _ _ _  s (by omega) (by omega) (rds_row 1 rfl rfl))) rfl ?_;rintro _ _ ⟨rfl,rfl⟩
 refine Z6i ?_
 refine Zf ?_
 refine Z8 ?_ ?_
 ·intro hb2 hp2
  refine Z57 ?_
  refine R2 ?_
  exact px_end0 rfl (fun _ s=>s) ⟨d2,hpm,rfl,rfl⟩
 intro hb2 hp2
 refine R3 ?_
 refine Z2i ?_
 refine Z32 ?_
 refine Z7m ?_
 refine R7 ?_
 refine px_loop2 (i,swpI d2 i j) ⟨by rw [swpI_len];omega,(swpI_perm d2 (by omega) (by omega)).trans hpm⟩ (by (try dsimp only);omega) ⟨rfl,trivial⟩ ?_ (fun _ s=>(by (try dsimp only);rw [swpI_len];exact (s.pull 1)))
 exact Z0
theorem HPush_calls {w0 w:World} {l:List HProp} (pp:Nat) (most quota:Int) (a:Option Addr) (c:Nat) (d:List PItem) (x:PItem) (hs:Sat w0 w ((Blk pp (.cells #[.slice a d.length c,.int .i64 most,.int .i64 quota] 186 (0,0)))::(Row 159 encPItem (.slice a d.length c) d)::l)) (hd:d.length≤900) :
  Calls Tryz.prog 172 #[.iface 227 (.pointer (some ⟨pp,0,none⟩)),.iface 159 (.agg (pItemC x).toArray)] w (Ret w0 fun v l'=>∃ (a2:Option Addr) (c2:Nat) (d2:List PItem),d2.Perm (d++[x])∧v=.tuple #[]∧l'=Blk pp (.cells #[.slice a2 d2.length c2,.int .i64 most,.int .i64 quota] 186 (0,0))::Row 159 encPItem (.slice a2 d2.length c2) d2::l):=by
 refine calls_enter Tryz.func172 rfl rfl rfl hs ?_
 refine R1 ?_
 refine Z2i ?_
 refine Z2i ?_
 refine Z2 ?_
 refine Z2 ?_
 refine oi (os_invP me_227_Push Tryz.underlying227 cb_279 rfl rfl (fun w s=>LPush_calls _ _ _ _ _ _ _  s (by omega))) ?_;rintro _ _ ⟨pa1,pc1,rfl,rfl⟩
 refine R3 ?_
 refine Z2i ?_
 refine Z2i ?_
 refine oi (os_invV 0 me_227_Len Tryz.underlying227 sc_184 cb_90 rfl rfl rfl rfl (fun w s=>LLen_calls _ _ _  s )) ?_;rintro _ _ ⟨rfl,rfl⟩
 refine oq (op_sube (c:=((d.length:Nat):Int)) rfl rfl (by simp) (by omega) (by omega)) ?_
 refine Z2 ?_
 refine Z2 ?_
 refine oi (os_call cb_196 rfl (fun w s=>HUp_calls _ _ _ _ _ _ _  s (by simp) (by simp;omega))) ?_;rintro _ _ ⟨hd3,hp3,rfl,rfl⟩
 refine R1 ?_
 exact px_end0 rfl (fun _ s=>s) ⟨_,_,hd3,hp3,rfl,rfl⟩
theorem HDown_calls {w0 w:World} {l:List HProp} (pp:Nat) (most quota:Int) (a:Option Addr) (c:Nat) (d:List PItem) (i0 m:Nat) (hs:Sat w0 w ((Blk pp (.cells #[.slice a d.length c,.int .i64 most,.int .i64 quota] 186 (0,0)))::(Row 159 encPItem (.slice a d.length c) d)::l)) (hi0:i0<m) (hm:m=d.length) (hd:d.length≤1000) :
  Calls Tryz.prog 158 #[.iface 227 (.pointer (some ⟨pp,0,none⟩)),.int .i64 (i0:Int),.int .i64 (m:Int)] w (Ret w0 fun v l'=>∃ (b:Bool) (d2:List PItem),d2.Perm d∧v=.bool b∧l'=Blk pp (.cells #[.slice a d2.length c,.int .i64 most,.int .i64 quota] 186 (0,0))::Row 159 encPItem (.slice a d2.length c) d2::l):=by
 refine calls_enter Tryz.func158 rfl rfl rfl hs ?_
 refine R11 ?_
 refine cd_loop2 (α:=Nat×List PItem) [(7,10),(12,44)] (fun x=>[(7,.int .i64 (x.1:Int))]) (fun x=>Blk pp (.cells #[.slice a x.2.length c,.int .i64 most,.int .i64 quota] 186 (0,0))::Row 159 encPItem (.slice a x.2.length c) x.2::l) (fun x=>x.1<m∧x.2.Perm d) (fun x=>m-x.1) (i0,d) ⟨hi0,List.Perm.refl _⟩ ⟨rfl,trivial⟩ (fun _ s=>s) ?_
 rintro ⟨i,d2⟩ ⟨hi,hpm⟩ f;(try dsimp only at hi hpm ⊢)
 have hdl:=hpm.length_eq
 refine R3 ?_
 refine oq (op_mule (c:=((2*i:Nat):Int)) rfl rfl (by omega) (by omega) (by omega)) ?_
 refine oq (op_adde (c:=((2*i+1:Nat):Int)) rfl rfl (by omega) (by omega) (by omega)) ?_
 refine R9 ?_
 refine ols 18 rfl ?_ ?_
 ·intro hb1 hp1
  refine Z1e ?_
  refine Zq ?_
  refine Zh ?_
  refine Z57 ?_
  refine R11 ?_
  exact Z6j
 intro hb1 hp1
 refine Zv ?_
 refine Z5e ?_
 refine Zf ?_
 refine Z8 ?_ ?_
 ·intro hb2 hp2
  refine Z57 ?_
  refine R11 ?_
  exact Z6j
 intro hb2 hp2
 refine R10 ?_
 refine oq (op_adde (c:=((2*i+2:Nat):Int)) rfl rfl (by omega) (by omega) (by omega)) ?_
 refine R8 ?_
 refine ols 28 rfl ?_ ?_
 ·intro hb3 hp3
  refine ol_q (wn_some rfl rfl rfl hb3 rfl) (op_move (v:=_) rfl) rfl ?_
  refine Z2h ?_
  refine Z2h ?_
  refine ol_i (wn_some rfl rfl rfl hb3 rfl) (os_invV 0 me_227_Less Tryz.underlying227 sc_184 cb_275 rfl rfl rfl rfl (fun w s=>LLess_calls _ _ _ _ _  s (by omega) (by omega) (rds_row 1 rfl rfl))) rfl ?_;rintro _ _ ⟨rfl,rfl⟩
  refine Z25 ?_
  refine Z8 ?_ ?_
  ·intro hb4 hp4
   refine R7 ?_
   refine Z2i ?_
   refine R2 ?_
   refine Z8x ?_
   refine Z6 ?_ ?_
   ·intro hb5 hp5
    refine Z57 ?_
    refine R11 ?_
    exact Z6j
   intro hb5 hp5
   refine R3 ?_
   refine Z2i ?_
   refine Z32 ?_
   refine Z7m ?_
   refine R7 ?_
   refine px_loop2 (2*i+2,swpI d2 i (2*i+2)) ⟨by (try dsimp only);omega,(swpI_perm d2 (by omega) (by omega)).trans hpm⟩ (by (try dsimp only);omega) ⟨rfl,trivial⟩ ?_ (fun _ s=>(by (try dsimp only);rw [swpI_len];exact (s.pull 1)))
   exact Z0
  intro hb4 hp4
  refine R4 ?_
  refine Z2i ?_
  refine R2 ?_
  refine Z8x ?_
  refine Z6 ?_ ?_
  ·intro hb6 hp6
   refine Z57 ?_
   refine R11 ?_
   exact Z6j
  intro hb6 hp6
  refine R3 ?_
  refine Z2i ?_
  refine Z32 ?_
  refine Z7m ?_
  refine R7 ?_
  refine Zac ?_
  exact Z0
 intro hb3 hp3
 refine Z1b ?_
 refine Z1b ?_
 refine Z1v ?_
 refine Zi ?_
 refine R4 ?_
 refine Z2i ?_
 refine R2 ?_
 refine Z8x ?_
 refine Z6 ?_ ?_
 ·intro hb7 hp7
  refine Z57 ?_
  refine R11 ?_
  exact Z6j
 intro hb7 hp7
 refine R3 ?_
 refine Z2i ?_
 refine Z32 ?_
 refine Z7m ?_
 refine R7 ?_
 refine Zac ?_
 exact Z0
theorem HInit_calls {w0 w:World} {l:List HProp} (pp:Nat) (most quota:Int) (a:Option Addr) (c:Nat) (d:List PItem) (hs:Sat w0 w ((Blk pp (.cells #[.slice a d.length c,.int .i64 most,.int .i64 quota] 186 (0,0)))::(Row 159 encPItem (.slice a d.length c) d)::l)) (hd:d.length≤1000) :
  Calls Tryz.prog 114 #[.iface 227 (.pointer (some ⟨pp,0,none⟩))] w (Ret w0 fun v l'=>∃ d2:List PItem,d2.Perm d∧v=.tuple #[]∧l'=Blk pp (.cells #[.slice a d2.length c,.int .i64 most,.int .i64 quota] 186 (0,0))::Row 159 encPItem (.slice a d2.length c) d2::l):=by
 refine calls_enter Tryz.func114 rfl rfl rfl hs ?_
 refine R1 ?_
 refine Z2i ?_
 refine oi (os_invV 0 me_227_Len Tryz.underlying227 sc_184 cb_90 rfl rfl rfl rfl (fun w s=>LLen_calls _ _ _  s )) ?_;rintro _ l ⟨rfl,rfl⟩
 refine R5 ?_
 refine oq (op_quoe (c:=((d.length / 2:Nat):Int)) rfl rfl (by rw [Int.tdiv_eq_ediv_of_nonneg (by omega)];rfl) (by omega) (by omega)) ?_
 refine R5 ?_
 refine cd_loop2 (α:=Nat×List PItem) [(3,3),(9,16)] (fun x=>[(3,.int .i64 ((x.1:Int)-1))]) (fun x=>Blk pp (.cells #[.slice a x.2.length c,.int .i64 most,.int .i64 quota] 186 (0,0))::Row 159 encPItem (.slice a x.2.length c) x.2::l) (fun x=>x.1≤d.length / 2∧x.2.Perm d) (fun x=>x.1) (d.length / 2,d) ⟨Nat.le_refl _,List.Perm.refl _⟩ ⟨rfl,trivial⟩ (fun _ s=>s) ?_
 rintro ⟨i,d2⟩ ⟨hi,hpm⟩ f;(try dsimp only at hi hpm ⊢)
 have hdl:=hpm.length_eq
 refine Z1u ?_ ?_
 ·intro hb1 hp1
  obtain ⟨k,rfl⟩:∃ k,i=k+1:=⟨i-1,by omega⟩
  have hk:((k+1:Nat):Int)-1=(k:Int):=by omega
  simp only [hk] at *
  refine R5 ?_
  refine Z2i ?_
  refine Z32 ?_
  refine Z2 ?_
  refine oi (os_call cb_158 rfl (fun w s=>HDown_calls _ _ _ _ _ _ _ _  s (by omega) (by omega) (by omega))) ?_;rintro _ _ ⟨bb2,hd2,hp2,rfl,rfl⟩
  refine R8 ?_
  refine px_loop2 (k,hd2) ⟨by (try dsimp only);omega,hp2.trans hpm⟩ (by (try dsimp only);omega) ⟨rfl,trivial⟩ ?_ (fun _ s=>s)
  exact Z0
 intro hb1 hp1
 refine R4 ?_
 exact px_end0 rfl (fun _ s=>s) ⟨d2,hpm,rfl,rfl⟩
end Go.SL
