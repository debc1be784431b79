import Derived.Test.YtdeemlgkckpedaaEng
import Derived.DeepKeys4
import Derived.Laws.StructEq
import Derived.Maps.Keyed
set_option linter.unusedVariables false
set_option linter.unusedSimpArgs false
namespace Go.SL
/-! ### Names: arrays of 32 bytes -/
def Root := { l : List UInt8 // l.length = 32 }
instance : DecidableEq Root := inferInstanceAs (DecidableEq { l : List UInt8 // l.length = 32 })
def Root.zero : Root := ⟨List.replicate 32 0, rfl⟩
def rootC (r : Root) : List Value := r.1.map fun b => .int .u8 (b.toNat : Int)
theorem rootC_len (r : Root) : (rootC r).length = 32 := by simp [rootC, r.2]
theorem rootC_take (r : Root) (X : List Value) : (rootC r ++ X).take 32 = rootC r := by
  rw [List.take_append_of_le_length (by rw [rootC_len]; exact Nat.le_refl _), List.take_of_length_le (by rw [rootC_len]; exact Nat.le_refl _)]
theorem rootC_take' (r : Root) : (rootC r).take 32 = rootC r := List.take_of_length_le (by rw [rootC_len]; exact Nat.le_refl _)
theorem rootC_drop (r : Root) (X : List Value) : (rootC r ++ X).drop 32 = X := by
  have := rootC_len r
  rw [← this, List.drop_left]
theorem rootC_one (r : Root) : ∀ v ∈ rootC r, v.oneCell' = true := fun v hv => by
  obtain ⟨b, _, rfl⟩ := List.mem_map.1 hv
  rfl
theorem rootC_get (r : Root) (i : Nat) (h : i < 32) : ((rootC r).drop i).take 1 = [.int .u8 ((r.1.getD i 0).toNat : Int)] := by
  have h' : i < r.1.length := by rw [r.2]; exact h
  unfold rootC
  rw [← List.map_drop, List.drop_eq_getElem_cons h']
  rw [List.map_cons, List.take_succ_cons, List.take_zero]
  simp only [List.getD_eq_getElem?_getD, List.getElem?_eq_getElem h', Option.getD_some]
theorem rootC_inj {a b : Root} (h : rootC a = rootC b) : a = b := by
  apply Subtype.ext
  have := congrArg (List.map fun v : Value => match v with | .int _ n => UInt8.ofNat n.toNat | _ => 0) h
  simpa [rootC, List.map_map, Function.comp_def] using this
def u8B (P : Program) (e : Nat) : Bool := match P.underlying e with | some (.int .u8) => true | _ => false
def rootB (P : Program) (T : Nat) : Bool := match P.underlying T with
  | some (.array 32 e) => u8B P e && (P.cellsOf e == 1) && (P.cellsOf T == 32) && (P.info? e).isSome && !(P.eqGuardType P.depth T)
  | _ => false
theorem mapM_all {α β : Type} (f : α → Option β) (g : α → β) : ∀ l : List α, (∀ i ∈ l, f i = some (g i)) → l.mapM f = some (l.map g)
  | [], _ => by simp
  | i :: l, h => by
    rw [List.mapM_cons, h i (by simp), mapM_all f g l (fun j hj => h j (by simp [hj]))]
    rfl
theorem rootB_spec {P : Program} {T : Nat} (h : rootB P T = true) : ∃ e q, P.underlying T = some (.array 32 e) ∧ P.underlying e = some (.int .u8) ∧ P.cellsOf e = 1 ∧ P.cellsOf T = 32 ∧ P.info? e = some q ∧ P.eqGuardType P.depth T = false := by
  unfold rootB at h
  split at h
  · rename_i e hu
    simp only [Bool.and_eq_true, beq_iff_eq, Bool.not_eq_true', Option.isSome_iff_exists] at h
    obtain ⟨⟨⟨⟨h1, h2⟩, h3⟩, q, h4⟩, h5⟩ := h
    unfold u8B at h1
    split at h1
    · exact ⟨e, q, hu, by assumption, h2, h3, h4, h5⟩
    · cases h1
  · cases h
theorem run_equalIn_root {P : Program} {T : Nat} (dd : Nat) (hT : rootB P T = true) (a b : Root) (w : World) : (Op.equalIn (dd + 2) T (.agg (rootC a).toArray) (.agg (rootC b).toArray)).run P w = .ok (decide (a = b)) w := by
  obtain ⟨e, q, hu, he, hc, hcT, hi, hg⟩ := rootB_spec hT
  have hpk : P.plainKey e = true := by unfold Program.plainKey; rw [he]
  have key : ∀ r : Root, (List.range 32).mapM (fun i => P.keyLits 1 e (((rootC r).toArray.toList.drop (i * P.cellsOf e)).take (P.cellsOf e))) = some ((List.range 32).map fun i => [Lit.int .u8 ((r.1.getD i 0).toNat : Int)]) := fun r => by
    refine mapM_all _ _ _ fun i hi' => ?_
    have hlt : i < 32 := by simpa using hi'
    rw [hc, Nat.mul_one]
    simp only [List.toList_toArray]
    rw [rootC_get r i hlt]
    generalize r.1.getD i 0 = u
    have hb := u.toNat_lt
    unfold Program.keyLits
    rw [he]
    simp only [Lit.wf, IntKind.min, IntKind.max, IntKind.signed, IntKind.bits]
    rw [if_pos]
    refine ⟨trivial, ?_⟩
    simp
    omega
  obtain ⟨r, hr, hiff⟩ := run_eqItems_plain (P := P) w dd hpk (rootC a).toArray (rootC b).toArray (List.range 32) _ _ (key a) (key b)
  have h1 : (Op.equalIn (dd + 2) T (.agg (rootC a).toArray) (.agg (rootC b).toArray)).run P w = (Op.eqItems (dd + 1) e (P.cellsOf e) (rootC a).toArray (rootC b).toArray (List.range 32)).run P w := run_equalIn_array w (dd + 1) _ _ hu hi
  rw [h1, hr]
  congr 1
  rw [Bool.eq_iff_iff, hiff, decide_eq_true_iff]
  constructor
  · intro h
    apply Subtype.ext
    apply List.ext_getElem
    · rw [a.2, b.2]
    · intro i h2 h3
      have hi2 : i < 32 := by rw [← a.2]; exact h2
      have h4 := congrArg (fun l : List Lit => l[i]?) h
      have hfl : ∀ g : Nat → Lit, ((List.range 32).map fun i => [g i]).flatten = (List.range 32).map g := fun g => by
        generalize List.range 32 = l
        induction l with
        | nil => rfl
        | cons u l ih => rw [List.map_cons, List.flatten_cons, ih]; rfl
      simp only [hfl] at h4
      simp [hi2, List.getD_eq_getElem?_getD, h2, h3] at h4
      exact UInt8.toNat_inj.1 (by omega)
  · intro h
    subst h
    rfl
theorem run_equal_root {P : Program} {T : Nat} (hT : rootB P T = true) (a b : Root) (w : World) : (Op.equal T (.agg (rootC a).toArray) (.agg (rootC b).toArray)).run P w = .ok (decide (a = b)) w := run_equalIn_root 9998 hT a b w
/-! ### Structs that are compared, field for field -/
def FEq (P : Program) (xs ys : Array Value) (fs : List Field) (c : Bool) : Prop := ∀ (d : Nat) (w : World), (Op.eqFields (d + 3) xs ys fs).run P w = .ok c w
theorem feq_nil {P : Program} {xs ys : Array Value} : FEq P xs ys [] true := fun d w => by simp [Op.eqFields]
theorem feq_int {P : Program} {xs ys : Array Value} {fl : Field} {fs : List Field} {c : Bool} {k k' : IntKind} {a b : Int} (hn : fl.name ≠ "_") (hu : P.underlying fl.type = some (.int k')) (hx : xs[fl.offset]? = some (.int k a)) (hy : ys[fl.offset]? = some (.int k b)) (h : FEq P xs ys fs c) :
    FEq P xs ys (fl :: fs) (decide (a = b) && c) := fun d w => by
  have hpk : P.plainKey fl.type = true := by unfold Program.plainKey; rw [hu]
  simp only [Op.eqFields, hn, ne_eq, not_false_eq_true, if_true, Sem.run_bind, run_part_plain w hpk hx, run_part_plain w hpk hy, Result.andThen_ok, run_equalIn_int w (d + 2) _ k k' a b hu]
  by_cases hab : a = b
  · simp [hab, h d w]
  · simp [hab]
theorem feq_root {P : Program} {xs ys : Array Value} {fl : Field} {fs : List Field} {c : Bool} {a b : Root} (hn : fl.name ≠ "_") (hT : rootB P fl.type = true) (hx : (xs.toList.drop fl.offset).take 32 = rootC a) (hy : (ys.toList.drop fl.offset).take 32 = rootC b) (h : FEq P xs ys fs c) :
    FEq P xs ys (fl :: fs) (decide (a = b) && c) := fun d w => by
  obtain ⟨e, q, hu, he, hc, hcT, hi, hg⟩ := rootB_spec hT
  have part1 : ∀ (zs : Array Value) (r : Root), (zs.toList.drop fl.offset).take 32 = rootC r → (part fl.type zs fl.offset).run P w = .ok (.agg (rootC r).toArray) w := fun zs r hz => by
    have hq : ∃ q', P.info? fl.type = some q' ∧ q'.size = 32 := by
      unfold Program.cellsOf at hcT
      cases hq : P.info? fl.type with
      | none => rw [hq] at hcT; simp at hcT
      | some q' => rw [hq] at hcT; exact ⟨q', rfl, by simpa using hcT⟩
    obtain ⟨q', hq1, hq2⟩ := hq
    have hz' : zs.extract fl.offset (fl.offset + 32) = (rootC r).toArray := by
      apply Array.toList_inj.1
      rw [Array.toList_extract, ← hz]
      simp [List.extract_eq_take_drop, Nat.add_sub_cancel_left]
    simp [part, isAgg, run_underlying hu, sizeOf, typeInfo, hq1, hq2, hz']
  simp only [Op.eqFields, hn, ne_eq, not_false_eq_true, if_true, Sem.run_bind, part1 xs a hx, part1 ys b hy, Result.andThen_ok, run_equalIn_root (d + 1) hT a b]
  by_cases hab : a = b
  · simp [hab, h d w]
  · simp [hab]
def structB (P : Program) (T : Nat) : Bool := match P.underlying T with | some (.struct _) => !P.stoodInHeld T && !(P.eqGuardType P.depth T) | _ => false
theorem run_eqs {P : Program} {T : Nat} {c : Bool} {xs ys : Array Value} (hB : structB P T = true) (h : FEq P xs ys (P.fieldsOf T).toList c) (w : World) : (Op.equal T (.agg xs) (.agg ys)).run P w = .ok c w ∧ P.eqGuardType P.depth T = false := by
  unfold structB at hB
  split at hB
  · rename_i fs hu
    simp only [Bool.and_eq_true, Bool.not_eq_true'] at hB
    have hfs : P.fieldsOf T = fs := by simp [Program.fieldsOf, hu]
    have h1 := run_equalIn_struct w 9999 T xs ys (by rw [hfs]; exact hu) hB.1
    exact ⟨h1.trans (h 9996 w), hB.2⟩
  · cases hB
section
variable {P : Program} {w0 w : World} {n : Nat} {f : Fr} {l l' : List HProp} {d : Option Tmp} {ty : TypeId} {pos : String} {aft : Array Edge} {g : Option (Nat × Bool)} {x y z : Operand} {T T' : TypeId}
theorem op_eqroot (a b : Root) (hT : rootB P T = true) (hx : ev f x = .agg (rootC a).toArray) (hy : ev f y = .agg (rootC b).toArray) : OP P w0 n ⟨d, .binOp .eql T x y T', ty, pos, aft, g⟩ f l (.bool (decide (a = b))) := fun M A w r s => by
  obtain ⟨e, q, hu, he, hc, hcT, hi, hg⟩ := rootB_spec hT
  have h1 : (eqGuard .eql T x y (.agg (rootC a).toArray) (.agg (rootC b).toArray)).run P w = .ok () w := by
    simp [eqGuard, hg]
  simp [execOp, r.eval, hx, hy, h1, binOp, run_equal_root hT a b]
theorem op_eqs {c : Bool} {xs ys : Array Value} (hB : structB P T = true) (hx : ev f x = .agg xs) (hy : ev f y = .agg ys) (h : FEq P xs ys (P.fieldsOf T).toList c) : OP P w0 n ⟨d, .binOp .eql T x y T', ty, pos, aft, g⟩ f l (.bool c) := fun M A w r s => by
  obtain ⟨h1, hg⟩ := run_eqs hB h w
  have h2 : (eqGuard .eql T x y (.agg xs) (.agg ys)).run P w = .ok () w := by simp [eqGuard, hg]
  simp [execOp, r.eval, hx, hy, h2, binOp, h1]
theorem op_nes {c : Bool} {xs ys : Array Value} (hB : structB P T = true) (hx : ev f x = .agg xs) (hy : ev f y = .agg ys) (h : FEq P xs ys (P.fieldsOf T).toList c) : OP P w0 n ⟨d, .binOp .neq T x y T', ty, pos, aft, g⟩ f l (.bool (!c)) := fun M A w r s => by
  obtain ⟨h1, hg⟩ := run_eqs hB h w
  have h2 : (eqGuard .neq T x y (.agg xs) (.agg ys)).run P w = .ok () w := by simp [eqGuard, hg]
  simp [execOp, r.eval, hx, hy, h2, binOp, h1]
theorem op_neroot (a b : Root) (hT : rootB P T = true) (hx : ev f x = .agg (rootC a).toArray) (hy : ev f y = .agg (rootC b).toArray) : OP P w0 n ⟨d, .binOp .neq T x y T', ty, pos, aft, g⟩ f l (.bool (decide (a ≠ b))) := fun M A w r s => by
  obtain ⟨e, q, hu, he, hc, hcT, hi, hg⟩ := rootB_spec hT
  have h1 : (eqGuard .neq T x y (.agg (rootC a).toArray) (.agg (rootC b).toArray)).run P w = .ok () w := by
    simp [eqGuard, hg]
  simp [execOp, r.eval, hx, hy, h1, binOp, run_equal_root hT a b]
end
/-! ### Arrays of bytes, written in place -/
def Root.set (r : Root) (i : Nat) (u : UInt8) : Root := ⟨r.1.set i u, by rw [List.length_set]; exact r.2⟩
theorem rootC_set (r : Root) (i : Nat) (u : UInt8) : (rootC r).toArray.setIfInBounds i (.int .u8 (u.toNat : Int)) = (rootC (r.set i u)).toArray := by
  simp [rootC, Root.set, List.map_set]
/-- &a[i] of an array that a pointer leads to: its element's size is one -/
def arr1B (P : Program) (T : Nat) : Option Nat := match P.underlying T with
  | some (.array n e) => (P.info? e).bind fun i => if i.size = 1 then some n else none
  | _ => none
section
variable {P : Program} {w0 w : World} {n : Nat} {f : Fr} {l l' : List HProp} {d : Option Tmp} {ty : TypeId} {pos : String} {aft : Array Edge} {g : Option (Nat × Bool)} {x y z : Operand} {T T' : TypeId} {v : Value}
theorem op_aidx {m b o : Nat} {k : IntKind} {i : Int} (j : Nat) (hT : arr1B P T = some m) (hx : ev f x = .pointer (some ⟨b, o, none⟩)) (hy : ev f y = .int k i) (hj : i = (j : Int)) (h : j < m) : OP P w0 n ⟨d, .indexAddr T x y, ty, pos, aft, g⟩ f l (.pointer (some ⟨b, o + j, none⟩)) := fun M A w r s => by
  subst hj
  unfold arr1B at hT
  split at hT
  · rename_i n' e hu
    obtain ⟨q, hq, h1⟩ := Option.bind_eq_some_iff.1 hT
    split at h1
    · rename_i hs
      cases h1
      have h3 : (j : Int) < (m : Int) := by omega
      have hadd : (⟨b, o, none⟩ : Addr).add j = ⟨b, o + j, none⟩ := by unfold Addr.add; split <;> simp_all
      simp [execOp, r.eval, hx, hy, Instr.indexAt, Instr.sureAddr, asIntOf, run_underlying hu, h, h3, sizeOf, typeInfo, hq, hs, hadd]
    · cases h1
  · cases hT
/-! ### Results that are cells -/
def RVal (P : Program) (w0 : World) (n : Nat) (f : Fr) (l : List HProp) (r : ResultVar) (v : Value) : Prop :=
  ∀ a w, Rep n a f → Sat w0 w l → (match r with | .tmp t => (pure (a.tmps.getD t undef) : Sem Value) | .cell p t => do loadVar t (← asAddr (a.tmps.getD p undef))).run P w = .ok v w
theorem rv_tmp {t : Tmp} (h : f t = v) : RVal P w0 n f l (.tmp t) v := fun a w r s => by
  simp only [Sem.run_pure]
  rw [r.get, h]
theorem rv_cella (i : Nat) {p b k : Nat} {cs : Array Value} {t : TypeId} {fr : Nat × Nat} {L : List Value} (hT : aggB P T = some k) (hl : l[i]? = some (Blk b (.cells cs t fr))) (hp : f p = .pointer (some ⟨b, 0, none⟩)) (hL : cs.toList.take k = L) (hk : k ≤ cs.size) : RVal P w0 n f l (.cell p T) (.agg L.toArray) := fun a w r s => by
  have hc := loadCells_row (P := P) w b 0 k cs t fr (heap_of (M := []) i s hl) L (by simpa using hL) (by omega)
  have hp' : a.tmps.getD p undef = .pointer (some ⟨b, 0, none⟩) := by rw [r.get, hp]
  simp only [hp']
  simp [asAddr, loadVar, Sem.run_bind, (isAgg_agg hT w).1, (isAgg_agg hT w).2, hc]
theorem rv_cell (i : Nat) {p b : Nat} {cs : Array Value} {t : TypeId} {fr : Nat × Nat} (hT : scalarB P T = true) (hl : l[i]? = some (Blk b (.cells cs t fr))) (hp : f p = .pointer (some ⟨b, 0, none⟩)) (hv : cs[0]? = some v) : RVal P w0 n f l (.cell p T) v := fun a w r s => by
  have hc : w.cell? ⟨b, 0, none⟩ = some v := (cell_of_row w b 0 cs t fr (heap_of (M := []) i s hl)).trans hv
  have hp' : a.tmps.getD p undef = .pointer (some ⟨b, 0, none⟩) := by rw [r.get, hp]
  simp only [hp']
  simp [asAddr, loadVar, Sem.run_bind, (isAgg_scalar hT w).1, load, Sem.run, hc]
theorem px_rv1 {fn : Func} {R : Value → List HProp → Prop} {r1 : ResultVar} {v1 : Value} (hr : fn.results = #[r1]) (h1 : RVal P w0 n f l r1 v1) (hl : ∀ w, Sat w0 w l → Sat w0 w l') (h : R v1 l') : PX w0 n .ret (bodyPost P fn (Ret w0 R)) f l := fun a w r s => by
  refine ⟨r.defers, v1, ?_, v1, l', rfl, h, hl w s⟩
  have := h1 a w r s
  cases r1 <;> simp_all [results]
theorem px_rv2 {fn : Func} {R : Value → List HProp → Prop} {r1 r2 : ResultVar} {v1 v2 : Value} (hr : fn.results = #[r1, r2]) (h1 : RVal P w0 n f l r1 v1) (h2 : RVal P w0 n f l r2 v2) (hl : ∀ w, Sat w0 w l → Sat w0 w l') (h : R (.tuple #[v1, v2]) l') : PX w0 n .ret (bodyPost P fn (Ret w0 R)) f l := fun a w r s => by
  refine ⟨r.defers, .tuple #[v1, v2], ?_, _, l', rfl, h, hl w s⟩
  have e1 := h1 a w r s
  have e2 := h2 a w r s
  have assoc : ∀ {α β γ : Type} (X : Result α) (F : α → World → Result β) (G : β → World → Result γ), (X.andThen F).andThen G = X.andThen fun u w' => (F u w').andThen G := fun X F G => by cases X <;> rfl
  cases r1 <;> cases r2
  · simp_all [results]
  · simp [results, hr] at e1 e2 ⊢
    rw [e1, ← assoc, e2]
    rfl
  · simp [results, hr] at e1 e2 ⊢
    rw [e2, ← assoc, e1]
    rfl
  · simp [results, hr] at e1 e2 ⊢
    rw [← assoc, e1]
    simp only [Result.andThen_ok]
    rw [← assoc, e2]
    rfl
end
end Go.SL

set_option linter.unusedVariables false
set_option linter.unusedSimpArgs false
set_option linter.unusedSectionVars false
namespace Go.SL
open Go.Maps (Keyed)
/-! ### Maps that are owned: their entries, in the order in which they came -/
section
variable {K V : Type}
/-- the entries' stamps rise, below the clock -/
def Born (es : Array MapEntry) (clock : Nat) : Prop := (es.toList.map (·.born)).Pairwise (· < ·) ∧ ∀ e ∈ es.toList, e.born < clock
def MapO (EK : K → Value) (EV : V → Value) (b : Nat) (kvs : List (K × V)) : HProp := fun h =>
  ∃ es clock, es.toList.map (fun e : MapEntry => (e.key, e.val)) = kvs.map (fun p => (EK p.1, EV p.2)) ∧ Born es clock ∧ Blk b (.map es clock) h
def look [DecidableEq K] (kvs : List (K × V)) (k : K) : Option V := (kvs.find? fun p => decide (p.1 = k)).map (·.2)
def ins [DecidableEq K] (kvs : List (K × V)) (k : K) (v : V) : List (K × V) :=
  if (look kvs k).isSome = true then kvs.map fun p => if p.1 = k then (k, v) else p else kvs ++ [(k, v)]
variable {EK : K → Value} {EV : V → Value} {w0 w : World} {l : List HProp} {b : Nat} {kvs : List (K × V)}
theorem Sat.mapOpen (s : Sat w0 w (MapO EK EV b kvs :: l)) : ∃ es clock, es.toList.map (fun e : MapEntry => (e.key, e.val)) = kvs.map (fun p => (EK p.1, EV p.2)) ∧ Born es clock ∧ Sat w0 w (Blk b (.map es clock) :: l) := by
  obtain ⟨h, a, x, y, d, rfl, p, q⟩ := s.own
  obtain ⟨es, clock, h1, hB, h2⟩ := p
  exact ⟨es, clock, h1, hB, s.os, s.tape, s.output, s.size, _, a, x, y, d, rfl, h2, q⟩
theorem Sat.mapMk {es : Array MapEntry} {clock : Nat} (s : Sat w0 w (Blk b (.map es clock) :: l)) (hB : Born es clock) (h : es.toList.map (fun e : MapEntry => (e.key, e.val)) = kvs.map (fun p => (EK p.1, EV p.2))) : Sat w0 w (MapO EK EV b kvs :: l) :=
  s.head fun _ hb => ⟨es, clock, h, hB, hb⟩
theorem Sat.mapNew (EK : K → Value) (EV : V → Value) (s : Sat w0 w (Blk b (.map #[] 0) :: l)) : Sat w0 w (MapO EK EV b [] :: l) := s.mapMk ⟨by simp, by simp⟩ rfl
theorem look_none [DecidableEq K] {k : K} (h : ∀ p ∈ kvs, p.1 ≠ k) : look kvs k = none := by
  unfold look
  rw [List.find?_eq_none.2 fun p hp => by simpa using h p hp]
  rfl
theorem look_some [DecidableEq K] {k : K} {v : V} (hd : (kvs.map (·.1)).Nodup) (h : (k, v) ∈ kvs) : look kvs k = some v := by
  induction kvs with
  | nil => cases h
  | cons p r ih =>
    rw [List.map_cons, List.nodup_cons] at hd
    unfold look
    rcases List.mem_cons.1 h with h | h
    · subst h
      simp
    · by_cases hp : p.1 = k
      · exact absurd (List.mem_map.2 ⟨(k, v), h, hp.symm⟩) hd.1
      · rw [List.find?_cons_of_neg (by simpa using hp)]
        exact ih hd.2 h
end
section
variable {K V : Type} [DecidableEq K] {EK : K → Value} {EV : V → Value} {P : Program} {w0 w : World} {n : Nat} {f : Fr} {l l' : List HProp} {d : Option Tmp} {ty : TypeId} {pos : String} {aft : Array Edge} {g : Option (Nat × Bool)} {x y z : Operand} {T kt et b : Nat} {kvs : List (K × V)}
/-- the keys of a map, and one more, are keys, and told apart -/
structure KeyOK (P : Program) (kt : Nat) (EK : K → Value) (kvs : List (K × V)) (k : K) : Prop where
  keyed : Keyed P kt
  isKey : ∀ a, a = k ∨ a ∈ kvs.map (·.1) → ∃ L, keyOf P kt (EK a) = some L
  inj : ∀ a a', EK a = EK a' → a = a'
  nodup : (kvs.map (·.1)).Nodup
theorem KeyOK.found {k : K} (H : KeyOK P kt EK kvs k) (w : World) {es : Array MapEntry} (he : es.toList.map (fun e : MapEntry => (e.key, e.val)) = kvs.map (fun p => (EK p.1, EV p.2))) :
    ((Instr.findKey kt (EK k) es.toList).run P w = .ok none w ∧ look kvs k = none ∧ ∀ p ∈ kvs, p.1 ≠ k) ∨ ∃ j v e, (Instr.findKey kt (EK k) es.toList).run P w = .ok (some (j, EV v)) w ∧ kvs[j]? = some (k, v) ∧ look kvs k = some v ∧ es.toList[j]? = some e ∧ e.key = EK k := by
  obtain ⟨L, hL⟩ := H.isKey k (.inl rfl)
  have hes : ∀ e ∈ es.toList, ∃ l, keyOf P kt e.key = some l := fun e hm => by
    have h1 : (e.key, e.val) ∈ es.toList.map (fun e : MapEntry => (e.key, e.val)) := List.mem_map.2 ⟨e, hm, rfl⟩
    rw [he] at h1
    obtain ⟨p, hp, hq⟩ := List.mem_map.1 h1
    simp only [Prod.mk.injEq] at hq
    rw [← hq.1]
    exact H.isKey _ (.inr (List.mem_map.2 ⟨p, hp, rfl⟩))
  rcases H.keyed.find w hL es.toList hes with ⟨h1, h2⟩ | ⟨j, e, h1, h2, h3⟩
  · have hne : ∀ p ∈ kvs, p.1 ≠ k := fun p hp hk => by
      have h4 : (EK p.1, EV p.2) ∈ kvs.map (fun p => (EK p.1, EV p.2)) := List.mem_map.2 ⟨p, hp, rfl⟩
      rw [← he] at h4
      obtain ⟨e, hm, hq⟩ := List.mem_map.1 h4
      simp only [Prod.mk.injEq] at hq
      exact h2 e hm (by rw [hq.1, hk])
    exact .inl ⟨h1, look_none hne, hne⟩
  · right
    have h4 := congrArg (fun l : List (Value × Value) => l[j]?) he
    simp only [List.getElem?_map, h2, Option.map_some] at h4
    cases hk : kvs[j]? with
    | none => rw [hk] at h4; cases h4
    | some p =>
      rw [hk] at h4
      simp only [Option.map_some, Option.some.injEq, Prod.mk.injEq] at h4
      have hpk : p.1 = k := H.inj _ _ (by rw [← h4.1, h3])
      refine ⟨j, p.2, e, by rw [h1, h4.2], by rw [← hpk]; exact hk, look_some H.nodup ?_, h2, h3⟩
      rw [← hpk]
      exact List.mem_of_getElem? hk
theorem run_getObj' {w : World} {r : Nat} {es : Array MapEntry} {clock : Nat} (hb : w.heap[r]? = some (.map es clock)) : (getObj r).run P w = .ok (.map es clock) w := by simp [getObj, Sem.run, hb]
theorem op_lookup2 (i : Nat) (k : K) {zv : Value} (hT : P.underlying T = some (.map kt et)) (hz : zeroB P et = some zv) (H : KeyOK P kt EK kvs k) (hl : l[i]? = some (MapO EK EV b kvs)) (hx : ev f x = .map (some b)) (hy : ev f y = EK k) :
    OP P w0 n ⟨d, .lookup T x y true, ty, pos, aft, g⟩ f l (match look kvs k with | some v => .tuple #[EV v, .bool true] | none => .tuple #[zv, .bool false]) := fun M A w r s => by
  obtain ⟨m, s1⟩ := s.front i hl
  obtain ⟨es, clock, he, hB, s2⟩ := s1.mapOpen
  have hb := s2.blk
  obtain ⟨L, hL⟩ := H.isKey k (.inl rfl)
  have hc := H.keyed.check w es.isEmpty hL
  obtain ⟨q, hq, hq2⟩ := Option.bind_eq_some_iff.1 hz
  rcases H.found w he with ⟨h1, h2, _⟩ | ⟨j, v, e, h1, _, h2, _⟩
  · simp [execOp, r.eval, hx, hy, Instr.lookup, run_underlying hT, run_getObj' hb, hc, h1, h2, zeroValue, typeInfo, hq, hq2]
  · simp [execOp, r.eval, hx, hy, Instr.lookup, run_underlying hT, run_getObj' hb, hc, h1, h2]
theorem Sat.setMap {es : Array MapEntry} {clock : Nat} (o : Obj) (s : Sat w0 w (Blk b (.map es clock) :: l)) : Sat w0 { w with heap := w.heap.setIfInBounds b o } (Blk b o :: l) := by
  have hb := s.blk
  have hlt : b < w.heap.size := (Array.getElem?_eq_some_iff.1 hb).1
  exact s.upd rfl rfl rfl (by simp [hlt]) (fun k _ hk => by simp [Array.getElem?_setIfInBounds, Ne.symm hk])
theorem run_setObj' {w : World} {r : Nat} {es : Array MapEntry} {clock : Nat} (o : Obj) (hb : w.heap[r]? = some (.map es clock)) : (setObj r o).run P w = .ok () { w with heap := w.heap.setIfInBounds r o } := by
  simp [setObj, Sem.run, hb]
theorem os_mapUpdate (k : K) (v : V) (hT : P.underlying T = some (.map kt et)) (H : KeyOK P kt EK kvs k) (hx : ev f x = .map (some b)) (hy : ev f y = EK k) (hz : ev f z = EV v) :
    OS P w0 n ⟨d, .mapUpdate T x y z, ty, pos, aft, g⟩ f (MapO EK EV b kvs :: l) (fun u l' => u = undef ∧ l' = MapO EK EV b (ins kvs k v) :: l) := fun a w r s => by
  obtain ⟨es, clock, he, hB, s2⟩ := s.mapOpen
  have hb := s2.blk
  obtain ⟨L, hL⟩ := H.isKey k (.inl rfl)
  have hc := H.keyed.check w false hL
  have hset := fun o => run_setObj' (P := P) o hb
  rcases H.found w he with ⟨h1, h2, h3⟩ | ⟨j, v', e, h1, h4, h2, h5, h6⟩
  · simp [execOp, r.eval, hx, hy, hz, Instr.mapUpdate, run_underlying hT, run_getObj' hb, hc, h1, hset, gives]
    refine (s2.setMap _).mapMk ⟨?_, ?_⟩ ?_
    · rw [Array.toList_push, List.map_append, List.pairwise_append]
      refine ⟨hB.1, by simp, fun x hx y hy => ?_⟩
      obtain ⟨e, he1, rfl⟩ := List.mem_map.1 hx
      simp at hy
      subst hy
      exact hB.2 e he1
    · intro e he1
      rw [Array.toList_push] at he1
      rcases List.mem_append.1 he1 with h | h
      · exact Nat.lt_succ_of_lt (hB.2 e h)
      · simp at h
        subst h
        exact Nat.lt_succ_self _
    have hins : ins kvs k v = kvs ++ [(k, v)] := by unfold ins; rw [h2]; rfl
    rw [hins]
    simp [he]
  · have hj : es[j]? = some e := by simpa using h5
    have hst := H.keyed.stays w hL
    simp [execOp, r.eval, hx, hy, hz, Instr.mapUpdate, run_underlying hT, run_getObj' hb, hc, h1, hj, h6, hst, hset, gives]
    have hbm : ((es.modify j fun e => { key := EK k, val := EV v, born := e.born }).toList.map (·.born)) = es.toList.map (·.born) := by
      apply List.ext_getElem?
      intro i
      simp only [List.getElem?_map, Array.getElem?_toList, Array.getElem?_modify]
      split
      · cases es[i]? <;> rfl
      · rfl
    refine (s2.setMap _).mapMk ⟨by rw [hbm]; exact hB.1, fun e he1 => ?_⟩ ?_
    · have h7 : e.born ∈ ((es.modify j fun e => { key := EK k, val := EV v, born := e.born }).toList.map (·.born)) := List.mem_map.2 ⟨e, he1, rfl⟩
      rw [hbm] at h7
      obtain ⟨e', h8, h9⟩ := List.mem_map.1 h7
      rw [← h9]
      exact hB.2 e' h8
    have hins : ins kvs k v = kvs.map fun p => if p.1 = k then (k, v) else p := by unfold ins; rw [h2]; rfl
    rw [hins]
    apply List.ext_getElem?
    intro i
    have hi := congrArg (fun l : List (Value × Value) => l[i]?) he
    simp only [List.getElem?_map, Array.getElem?_toList] at hi
    simp only [List.getElem?_map, Array.getElem?_toList, Array.getElem?_modify]
    by_cases hij : j = i
    · subst hij
      rw [hj, h4]
      simp
    · rw [if_neg hij]
      rw [hi]
      cases hk : kvs[i]? with
      | none => rfl
      | some p =>
        have hpk : p.1 ≠ k := fun hp => by
          have hlt1 := (List.getElem?_eq_some_iff.1 h4).1
          have hlt2 := (List.getElem?_eq_some_iff.1 hk).1
          have e1 : (kvs.map (·.1))[j]? = some k := by rw [List.getElem?_map, h4]; rfl
          have e2 : (kvs.map (·.1))[i]? = some k := by rw [List.getElem?_map, hk, ← hp]; rfl
          exact hij ((List.getElem?_inj (by simpa using hlt1) H.nodup).1 (by rw [e1, e2]))
        simp [hpk]
theorem op_len_map (i : Nat) (hT : P.underlying T = some (.map kt et)) (hl : l[i]? = some (MapO EK EV b kvs)) (hx : ev f x = .map (some b)) : OP P w0 n ⟨d, .call ⟨.builtin .len, #[x], #[T]⟩, ty, pos, aft, g⟩ f l (.int .i64 kvs.length) := fun M A w r s => by
  obtain ⟨m, s1⟩ := s.front i hl
  obtain ⟨es, clock, he, hB, s2⟩ := s1.mapOpen
  have hb := s2.blk
  have hlen : es.size = kvs.length := by have := congrArg List.length he; simpa using this
  simp [execOp, resolve, invoke, builtin, r.eval, hx, Builtin.len_, run_underlying hT, run_getObj' hb, hlen, goInt]
end
end Go.SL

set_option linter.unusedVariables false
set_option linter.unusedSimpArgs false
set_option linter.unusedSectionVars false
namespace Go.SL
open Go.Maps (Keyed)
/-! ### Loops over maps -/
section
variable {P : Program} {w0 w : World} {n : Nat} {f : Fr} {l l' : List HProp} {d : Option Tmp} {ty : TypeId} {pos : String} {aft : Array Edge} {g : Option (Nat × Bool)} {x y z : Operand} {T kt et b r : Nat} {es : Array MapEntry} {clock : Nat} {seen : Array Nat}
theorem run_choose_lt (w : World) (m : Nat) (hm : 0 < m) : ∃ i w', i < m ∧ (choose (.mapNext m)).run P w = .ok i w' ∧ (w' = w ∨ w' = w.drew) := by
  rw [run_choose_drew]
  split
  · exact ⟨0, w, hm, rfl, .inl rfl⟩
  · exact ⟨_, _, Nat.mod_lt _ hm, rfl, .inr rfl⟩
theorem os_range (hT : P.underlying T = some (.map kt et)) (hx : ev f x = .map (some b)) : OS P w0 n ⟨d, .range T x, ty, pos, aft, g⟩ f (Blk b (.map es clock) :: l) (fun u l' => ∃ r, u = .pointer (some ⟨r, 0, none⟩) ∧ l' = Blk r (.mapIter (some b) clock #[] clock) :: Blk b (.map es clock) :: l) := fun a w r s => by
  have hb := s.blk
  simp [execOp, r.eval, hx, Instr.range, run_underlying hT, run_getObj' hb, gives]
  exact s.alloc _
theorem os_next (hB : Born es clock) (hx : ev f x = .pointer (some ⟨r, 0, none⟩)) : OS P w0 n ⟨d, .next x false, ty, pos, aft, g⟩ f (Blk b (.map es clock) :: Blk r (.mapIter (some b) clock seen clock) :: l)
    (fun u l' => (u = .tuple #[.bool false] ∧ (∀ e ∈ es.toList, seen.contains e.born = true) ∧ l' = Blk b (.map es clock) :: Blk r (.mapIter (some b) clock seen clock) :: l) ∨
      ∃ e ∈ es.toList, seen.contains e.born = false ∧ u = .tuple #[.bool true, e.key, e.val] ∧ l' = Blk b (.map es clock) :: Blk r (.mapIter (some b) clock (seen.push e.born) clock) :: l) := fun a w ra s => by
  have hb := s.blk
  have hr := (s.pull 1).blk
  have hr : w.heap[r]? = some (.mapIter (some b) clock seen clock) := hr
  have hgr : (getObj r).run P w = .ok (.mapIter (some b) clock seen clock) w := by simp [getObj, Sem.run, hr]
  have hall : ¬ ((!seen.isEmpty && !es.isEmpty && es.all fun e => decide (e.born ≥ clock)) = true) := fun h => by
    simp only [Bool.and_eq_true, Bool.not_eq_true'] at h
    obtain ⟨⟨_, h1⟩, h2⟩ := h
    have hne : 0 < es.size := by
      rcases Nat.eq_zero_or_pos es.size with h0 | h0
      · exact absurd h1 (by simp [Array.eq_empty_of_size_eq_zero h0])
      · exact h0
    have h3 := (Array.all_eq_true.1 h2) 0 hne
    have h4 := hB.2 es[0] (by simp)
    simp at h3
    omega
  let old := (es.filter fun e => !seen.contains e.born).filter fun e => decide (e.born < clock)
  let new := (es.filter fun e => !seen.contains e.born).filter fun e => decide (e.born ≥ clock)
  let C : Array (Option MapEntry) := (if old.isEmpty then #[none] else #[]) ++ (old ++ new).map some
  have hC : 0 < C.size := by
    by_cases h : old.isEmpty = true
    · simp [C, h]; omega
    · have : 0 < old.size := by
        rcases Nat.eq_zero_or_pos old.size with h0 | h0
        · exact absurd (by simp [Array.eq_empty_of_size_eq_zero h0]) h
        · exact h0
      simp only [C, Array.size_append, Array.size_map]
      omega
  obtain ⟨i, w1, hi, hch, hw1⟩ := run_choose_lt (P := P) w C.size hC
  have s1 : Sat w0 w1 (Blk b (.map es clock) :: Blk r (.mapIter (some b) clock seen clock) :: l) := by
    rcases hw1 with rfl | rfl
    · exact s
    · exact s.drew
  have hr1 : w1.heap[r]? = some (.mapIter (some b) clock seen clock) := (s1.pull 1).blk
  have hset : ∀ o, (setObj r o).run P w1 = .ok () { w1 with heap := w1.heap.setIfInBounds r o } := fun o => by simp [setObj, Sem.run, hr1]
  have hrun : (Instr.next (.pointer (some ⟨r, 0, none⟩)) false ty).run P w = match C[i]? with
      | some (some e) => .ok (.tuple #[.bool true, e.key, e.val]) { w1 with heap := w1.heap.setIfInBounds r (.mapIter (some b) clock (seen.push e.born) clock) }
      | some none => .ok (.tuple #[.bool false]) w1
      | none => .halt (.stuck "Next: no such candidate") w1 := by
    unfold Instr.next
    simp only [Sem.run_bind, hgr, Result.andThen_ok, run_getObj' hb]
    rw [if_neg hall, Sem.run_bind]
    change ((choose (Question.mapNext C.size)).run P w).andThen _ = _
    rw [hch, Result.andThen_ok]
    change Sem.run P (match C[i]? with
      | some (some e) => (do setObj r (.mapIter (some b) clock (seen.push e.born) clock); pure (Value.tuple #[.bool true, e.key, e.val]))
      | some none => pure (Value.tuple #[.bool false])
      | none => stuck "Next: no such candidate") w1 = _
    generalize C[i]? = c
    rcases c with _ | _ | e
    · rfl
    · rfl
    · simp only [Sem.run_bind, hset, Result.andThen_ok, Sem.run_pure]
  have hci : C[i]? = some C[i] := Array.getElem?_eq_getElem hi
  rw [hci] at hrun
  have hmem : C[i] ∈ C := Array.getElem_mem hi
  cases hc : C[i] with
  | none =>
    rw [hc] at hrun hmem
    have hempty : old.isEmpty = true := by
      by_cases h : old.isEmpty = true
      · exact h
      · simp [C, h] at hmem
    simp [execOp, ra.eval, hx, hrun, gives]
    refine ⟨_, ⟨fun e he => ?_, rfl⟩, s1⟩
    by_cases hs : seen.contains e.born = true
    · simpa using hs
    · exfalso
      have hin : e ∈ old := by
        simp only [old, Array.mem_filter]
        exact ⟨⟨he, by simpa using hs⟩, by simpa using hB.2 e (by simpa using he)⟩
      rw [Array.isEmpty_iff.1 hempty] at hin
      simp at hin
  | some e =>
    rw [hc] at hrun hmem
    have he : e ∈ es ∧ seen.contains e.born = false := by
      simp only [C, Array.mem_append, Array.mem_map] at hmem
      rcases hmem with h | ⟨e', h, h2⟩
      · split at h <;> simp at h
      · cases h2
        rcases h with h | h
        · simp only [old, Array.mem_filter] at h
          exact ⟨h.1.1, by simpa using h.1.2⟩
        · simp only [new, Array.mem_filter] at h
          exact ⟨h.1.1, by simpa using h.1.2⟩
    simp [execOp, ra.eval, hx, hrun, gives]
    have hlt : r < w1.heap.size := (Array.getElem?_eq_some_iff.1 hr1).1
    have s2 : Sat w0 w1 (Blk r (.mapIter (some b) clock seen clock) :: Blk b (.map es clock) :: l) := s1.pull 1
    have s3 : Sat w0 { w1 with heap := w1.heap.setIfInBounds r (.mapIter (some b) clock (seen.push e.born) clock) } (Blk r (.mapIter (some b) clock (seen.push e.born) clock) :: Blk b (.map es clock) :: l) :=
      s2.upd rfl rfl rfl (by simp [hlt]) (fun k _ hk => by simp [Array.getElem?_setIfInBounds, Ne.symm hk])
    refine ⟨_, ⟨e, he.1, by simpa using he.2, ⟨rfl, rfl⟩, rfl⟩, s3.pull 1⟩
theorem born_inj (hB : Born es clock) {e e' : MapEntry} (h : e ∈ es.toList) (h' : e' ∈ es.toList) (hb : e.born = e'.born) : e = e' := by
  obtain ⟨i, hi, rfl⟩ := List.mem_iff_getElem.1 h
  obtain ⟨j, hj, rfl⟩ := List.mem_iff_getElem.1 h'
  have hp := List.pairwise_iff_getElem.1 hB.1
  rcases Nat.lt_trichotomy i j with h1 | h1 | h1
  · have := hp i j (by simpa using hi) (by simpa using hj) h1
    simp only [List.getElem_map] at this
    omega
  · subst h1; rfl
  · have := hp j i (by simpa using hj) (by simpa using hi) h1
    simp only [List.getElem_map] at this
    omega
theorem op_entry (i j : Nat) (e : MapEntry) (hB : Born es clock) (hl : l[i]? = some (Blk b (.map es clock))) (hr : l[j]? = some (Blk r (.mapIter (some b) clock seen clock))) (hx : ev f x = .pointer (some ⟨r, 0, none⟩)) (hs : seen.back? = some e.born) (he : e ∈ es.toList) :
    OP P w0 n ⟨d, .entry x, ty, pos, aft, g⟩ f l (.tuple #[e.key, e.val]) := fun M A w ra s => by
  have h1 : w.heap[b]? = some (.map es clock) := s.at (M.length + i) (by rw [List.getElem?_append_right (by omega)]; simpa using hl)
  have h2 : w.heap[r]? = some (.mapIter (some b) clock seen clock) := s.at (M.length + j) (by rw [List.getElem?_append_right (by omega)]; simpa using hr)
  have hgr : (getObj r).run P w = .ok (.mapIter (some b) clock seen clock) w := by simp [getObj, Sem.run, h2]
  have hf : es.find? (fun e' => e'.born == e.born) = some e := by
    cases hf : es.find? (fun e' => e'.born == e.born) with
    | none =>
      have := Array.find?_eq_none.1 hf e (by simpa using he)
      simp at this
    | some e' =>
      have h3 := Array.find?_some hf
      have h4 := Array.mem_of_find?_eq_some hf
      have h5 : e' = e := born_inj (e := e') (e' := e) hB (by simpa using h4) he (by simpa using h3)
      rw [h5]
  simp [execOp, ra.eval, hx, Instr.entry, hgr, run_getObj' h1, hs, hf]
section
variable {K V : Type} [DecidableEq K] {EK : K → Value} {EV : V → Value} {kvs : List (K × V)}
theorem erase_filter : ∀ (kvs : List (K × V)) (j : Nat) (k : K) (v : V), (kvs.map (·.1)).Nodup → kvs[j]? = some (k, v) → kvs.eraseIdx j = kvs.filter fun p => decide (p.1 ≠ k)
  | [], j, k, v, _, h => by simp at h
  | p :: r, 0, k, v, hd, h => by
    simp at h
    subst h
    rw [List.map_cons, List.nodup_cons] at hd
    rw [List.eraseIdx_cons_zero, List.filter_cons_of_neg (by simp)]
    refine (List.filter_eq_self.2 fun q hq => ?_).symm
    simp only [decide_eq_true_eq, ne_eq]
    intro he
    exact hd.1 (List.mem_map.2 ⟨q, hq, he⟩)
  | p :: r, j + 1, k, v, hd, h => by
    rw [List.map_cons, List.nodup_cons] at hd
    have h' : r[j]? = some (k, v) := by simpa using h
    rw [List.eraseIdx_cons_succ, erase_filter r j k v hd.2 h', List.filter_cons_of_pos]
    simp only [decide_eq_true_eq, ne_eq]
    intro he
    exact hd.1 (List.mem_map.2 ⟨(k, v), List.mem_of_getElem? h', he.symm⟩)
theorem map_erase {α β : Type} (F : α → β) : ∀ (L : List α) (j : Nat), (L.eraseIdx j).map F = (L.map F).eraseIdx j
  | [], j => by simp
  | a :: L, 0 => by simp
  | a :: L, j + 1 => by simp [map_erase F L j]
theorem os_delete (k : K) {ats : Array TypeId} (has : ats = #[T, kt]) (hT : P.underlying T = some (.map kt et)) (H : KeyOK P kt EK kvs k) (hB : Born es clock) (he : es.toList.map (fun e : MapEntry => (e.key, e.val)) = kvs.map (fun p => (EK p.1, EV p.2))) (hx : ev f x = .map (some b)) (hy : ev f y = EK k) :
    OS P w0 n ⟨d, .call ⟨.builtin .delete, #[x, y], ats⟩, ty, pos, aft, g⟩ f (Blk b (.map es clock) :: l) (fun u l' => u = .tuple #[] ∧ ∃ es', l' = Blk b (.map es' clock) :: l ∧ es'.toList.map (fun e : MapEntry => (e.key, e.val)) = (kvs.filter fun p => decide (p.1 ≠ k)).map (fun p => (EK p.1, EV p.2)) ∧ Born es' clock ∧ (∀ e ∈ es'.toList, e ∈ es.toList ∧ e.key ≠ EK k) ∧ es'.toList.Sublist es.toList) := fun a w ra s => by
  subst has
  have hb := s.blk
  obtain ⟨L, hL⟩ := H.isKey k (.inl rfl)
  have hc := H.keyed.check w es.isEmpty hL
  have hset := fun o => run_setObj' (P := P) o hb
  have hkey : ∀ e ∈ es.toList, ∃ p ∈ kvs, e.key = EK p.1 := fun e hm => by
    have h1 : (e.key, e.val) ∈ es.toList.map (fun e : MapEntry => (e.key, e.val)) := List.mem_map.2 ⟨e, hm, rfl⟩
    rw [he] at h1
    obtain ⟨p, hp, hq⟩ := List.mem_map.1 h1
    simp only [Prod.mk.injEq] at hq
    exact ⟨p, hp, hq.1.symm⟩
  rcases H.found w he with ⟨h1, h2, h3⟩ | ⟨j, v, e0, h1, h4, h2, h5, h6⟩
  · simp [execOp, resolve, invoke, builtin, ra.eval, hx, hy, Builtin.delete_, run_underlying hT, run_getObj' hb, hc, h1, hset, gives]
    refine ⟨_, ⟨es, rfl, ?_, hB, fun e hm => ⟨by simpa using hm, fun hk => ?_⟩, List.Sublist.refl _⟩, s.setMap _⟩
    · have h4 : (kvs.filter fun p => decide (p.1 ≠ k)) = kvs := List.filter_eq_self.2 fun p hp => by simpa using h3 p hp
      have h5 : (kvs.filter fun p => !decide (p.1 = k)) = kvs := List.filter_eq_self.2 fun p hp => by simpa using h3 p hp
      rw [he]; simp only [h5]
    · obtain ⟨p, hp, hq⟩ := hkey e (by simpa using hm)
      exact h3 p hp (H.inj _ _ (by rw [← hq, hk]))
  · simp [execOp, resolve, invoke, builtin, ra.eval, hx, hy, Builtin.delete_, run_underlying hT, run_getObj' hb, hc, h1, hset, gives]
    have hjlt : j < es.toList.length := (List.getElem?_eq_some_iff.1 h5).1
    have hes' : (es.eraseIdxIfInBounds j).toList = es.toList.eraseIdx j := by simp
    have hmem : ∀ e ∈ es.toList.eraseIdx j, e ∈ es.toList ∧ e.key ≠ EK k := fun e hm => by
      refine ⟨(List.eraseIdx_sublist _ _).subset hm, fun hk => ?_⟩
      have h7 : (e.key, e.val) ∈ (es.toList.eraseIdx j).map (fun e : MapEntry => (e.key, e.val)) := List.mem_map.2 ⟨e, hm, rfl⟩
      rw [map_erase, he, ← map_erase, erase_filter kvs j k v H.nodup h4] at h7
      obtain ⟨p, hp, hq⟩ := List.mem_map.1 h7
      simp only [Prod.mk.injEq] at hq
      exact (by simpa using (List.mem_filter.1 hp).2 : p.1 ≠ k) (H.inj _ _ (by rw [hq.1, hk]))
    refine ⟨_, ⟨es.eraseIdxIfInBounds j, rfl, ?_, ⟨?_, ?_⟩, ?_, hes' ▸ List.eraseIdx_sublist _ _⟩, s.setMap _⟩
    · have h7 := congrArg (fun l => l.eraseIdx j) he
      simp only [← map_erase, erase_filter kvs j k v H.nodup h4] at h7
      simpa using h7
    · rw [hes', map_erase]
      exact hB.1.sublist (List.eraseIdx_sublist _ _)
    · intro e hm
      rw [hes'] at hm
      exact hB.2 e (hmem e hm).1
    · intro e hm
      have hm' : e ∈ es.toList.eraseIdx j := hes' ▸ (Array.mem_toList_iff.2 hm)
      simpa using hmem e hm'
end
end
end Go.SL

set_option linter.unusedVariables false
set_option linter.unusedSimpArgs false
namespace Go.SL
theorem list_len1 {α : Type} {l : List α} (h : l.length = 1) : ∃ a, l = [a] := by
  match l, h with
  | [a], _ => exact ⟨a, rfl⟩
theorem list_len2 {α : Type} {l : List α} (h : l.length = 2) : ∃ a b, l = [a, b] := by
  match l, h with
  | [a, b], _ => exact ⟨a, b, rfl⟩
theorem list_len3 {α : Type} {l : List α} (h : l.length = 3) : ∃ a b c, l = [a, b, c] := by
  match l, h with
  | [a, b, c], _ => exact ⟨a, b, c, rfl⟩
theorem list_len4 {α : Type} {l : List α} (h : l.length = 4) : ∃ a b c d, l = [a, b, c, d] := by
  match l, h with
  | [a, b, c, d], _ => exact ⟨a, b, c, d, rfl⟩
theorem list_len5 {α : Type} {l : List α} (h : l.length = 5) : ∃ a b c d e, l = [a, b, c, d, e] := by
  match l, h with
  | [a, b, c, d, e], _ => exact ⟨a, b, c, d, e, rfl⟩
/-! ### Vote -/
structure Vote where
  who : Int
  slot : Int
  target : Root
  deriving DecidableEq
def Vote.zero : Vote := ⟨0, 0, Root.zero⟩
def voteC (v : Vote) : List Value := [.int .i64 v.who] ++ ([.int .i64 v.slot] ++ (rootC v.target))
theorem voteC_len (v : Vote) : (voteC v).length = 34 := by simp [voteC, rootC_len]
theorem voteC_take' (v : Vote) : (voteC v).take 34 = voteC v := List.take_of_length_le (by rw [voteC_len]; exact Nat.le_refl _)
theorem voteC_ta (v : Vote) : ((voteC v).drop 0).take 34 = voteC v := voteC_take' v
theorem voteC_one (v : Vote) : ∀ u ∈ voteC v, u.oneCell' = true := fun u hu => by
  simp only [voteC, List.mem_append, List.mem_singleton] at hu
  rcases hu with h | h | h
  · subst h; rfl
  · subst h; rfl
  · exact rootC_one _ u h
def encVote : Enc Vote := ⟨voteC, 34, voteC_len, voteC_one, by omega⟩
theorem voteC_d0 (v : Vote) : (voteC v).drop 0 = [.int .i64 v.who] ++ ([.int .i64 v.slot] ++ (rootC v.target)) := rfl
theorem voteC_l0 (v : Vote) : (voteC v)[0]? = some (.int .i64 v.who) := by
  have h := voteC_d0 v
  have h2 : ((voteC v).drop 0)[0]? = some (.int .i64 v.who) := by rw [h]; rfl
  rwa [List.getElem?_drop] at h2
theorem voteC_a0 (v : Vote) : (voteC v).toArray[0]? = some (.int .i64 v.who) := by
  rw [List.getElem?_toArray]; exact voteC_l0 v
theorem voteC_s0 (v : Vote) (x : Int) : (voteC v).toArray.setIfInBounds 0 (.int .i64 x) = (voteC { v with who := x }).toArray := by
  apply Array.toList_inj.1
  rw [Array.toList_setIfInBounds]
  show (voteC v).set 0 _ = voteC _
  unfold voteC
  simp [List.set_append, rootC_len]
theorem voteC_d1 (v : Vote) : (voteC v).drop 1 = [.int .i64 v.slot] ++ (rootC v.target) := rfl
theorem voteC_l1 (v : Vote) : (voteC v)[1]? = some (.int .i64 v.slot) := by
  have h := voteC_d1 v
  have h2 : ((voteC v).drop 1)[0]? = some (.int .i64 v.slot) := by rw [h]; rfl
  rwa [List.getElem?_drop] at h2
theorem voteC_a1 (v : Vote) : (voteC v).toArray[1]? = some (.int .i64 v.slot) := by
  rw [List.getElem?_toArray]; exact voteC_l1 v
theorem voteC_s1 (v : Vote) (x : Int) : (voteC v).toArray.setIfInBounds 1 (.int .i64 x) = (voteC { v with slot := x }).toArray := by
  apply Array.toList_inj.1
  rw [Array.toList_setIfInBounds]
  show (voteC v).set 1 _ = voteC _
  unfold voteC
  simp [List.set_append, rootC_len]
theorem voteC_d2 (v : Vote) : (voteC v).drop 2 = rootC v.target := rfl
theorem voteC_f2 (v : Vote) : ((voteC v).drop 2).take 32 = rootC v.target := by
  rw [voteC_d2]
  exact rootC_take' _
theorem voteC_af2 (v : Vote) : ((voteC v).toArray.toList.drop 2).take 32 = rootC v.target := voteC_f2 v
theorem voteC_p0 (v : Vote) (x : Int) : (voteC v).take 0 ++ ([.int .i64 x]) ++ (voteC v).drop 1 = voteC { v with who := x } := by
  unfold voteC
  simp [List.take_append, List.drop_append, rootC_len, List.take_of_length_le, List.drop_eq_nil_of_le]
theorem voteC_b0 (v : Vote) (x : Int) (r : List (Nat × Value)) : fill2 [(0, 1), (1, 1), (2, 32)] (voteC v) ((0, .int .i64 x) :: r) = fill2 [(0, 1), (1, 1), (2, 32)] (voteC { v with who := x }) r := congrArg (fun q => fill2 [(0, 1), (1, 1), (2, 32)] q r) (voteC_p0 v x)
theorem voteC_k0 (v : Vote) (x : Int) {r : List (Nat × Value)} (h : FillOk [(0, 1), (1, 1), (2, 32)] (voteC v).length r) : FillOk [(0, 1), (1, 1), (2, 32)] (voteC v).length ((0, .int .i64 x) :: r) := ⟨⟨by simp [Value.cells, ], by rw [voteC_len]; rfl⟩, h⟩
theorem voteC_p1 (v : Vote) (x : Int) : (voteC v).take 1 ++ ([.int .i64 x]) ++ (voteC v).drop 2 = voteC { v with slot := x } := by
  unfold voteC
  simp [List.take_append, List.drop_append, rootC_len, List.take_of_length_le, List.drop_eq_nil_of_le]
theorem voteC_b1 (v : Vote) (x : Int) (r : List (Nat × Value)) : fill2 [(0, 1), (1, 1), (2, 32)] (voteC v) ((1, .int .i64 x) :: r) = fill2 [(0, 1), (1, 1), (2, 32)] (voteC { v with slot := x }) r := congrArg (fun q => fill2 [(0, 1), (1, 1), (2, 32)] q r) (voteC_p1 v x)
theorem voteC_k1 (v : Vote) (x : Int) {r : List (Nat × Value)} (h : FillOk [(0, 1), (1, 1), (2, 32)] (voteC v).length r) : FillOk [(0, 1), (1, 1), (2, 32)] (voteC v).length ((1, .int .i64 x) :: r) := ⟨⟨by simp [Value.cells, ], by rw [voteC_len]; rfl⟩, h⟩
theorem voteC_p2 (v : Vote) (x : Root) : (voteC v).take 2 ++ (rootC x) ++ (voteC v).drop 34 = voteC { v with target := x } := by
  unfold voteC
  simp [List.take_append, List.drop_append, rootC_len, List.take_of_length_le, List.drop_eq_nil_of_le]
theorem voteC_b2 (v : Vote) (x : Root) (r : List (Nat × Value)) : fill2 [(0, 1), (1, 1), (2, 32)] (voteC v) ((2, .agg (rootC x).toArray) :: r) = fill2 [(0, 1), (1, 1), (2, 32)] (voteC { v with target := x }) r := congrArg (fun q => fill2 [(0, 1), (1, 1), (2, 32)] q r) (voteC_p2 v x)
theorem voteC_k2 (v : Vote) (x : Root) {r : List (Nat × Value)} (h : FillOk [(0, 1), (1, 1), (2, 32)] (voteC v).length r) : FillOk [(0, 1), (1, 1), (2, 32)] (voteC v).length ((2, .agg (rootC x).toArray) :: r) := ⟨⟨by simp [Value.cells, rootC_len], by rw [voteC_len]; rfl⟩, h⟩
theorem feq_Vote {P : Program} {fs : List Field} {ti tr : TypeId} (hf : (fs.map fun f => (f.name, f.type, f.offset)) = [("Validator", ti, 0), ("Slot", ti, 1), ("Target", tr, 2)]) (hi : P.underlying ti = some (.int .i64)) (hr : rootB P tr = true) (a b : Vote) : FEq P (voteC a).toArray (voteC b).toArray fs (decide (a = b)) := by
  obtain ⟨f0, f1, f2, rfl⟩ := list_len3 (by simpa using congrArg List.length hf)
  simp only [List.map_cons, List.map_nil, List.cons.injEq, Prod.mk.injEq, and_true] at hf
  obtain ⟨⟨n0, t0, o0⟩, ⟨n1, t1, o1⟩, ⟨n2, t2, o2⟩⟩ := hf
  have h := feq_int (P := P) (by rw [n0]; decide) (by rw [t0]; exact hi) (by rw [o0]; exact voteC_a0 a) (by rw [o0]; exact voteC_a0 b) (feq_int (by rw [n1]; decide) (by rw [t1]; exact hi) (by rw [o1]; exact voteC_a1 a) (by rw [o1]; exact voteC_a1 b) (feq_root (P := P) (by rw [n2]; decide) (by rw [t2]; exact hr) (by rw [o2]; exact voteC_af2 a) (by rw [o2]; exact voteC_af2 b) (feq_nil)))
  have e : (decide (a.who = b.who) && (decide (a.slot = b.slot) && (decide (a.target = b.target) && (true)))) = decide (a = b) := by
    rw [Bool.eq_iff_iff]
    cases a; cases b
    simp
  rw [← e]
  exact h
/-! ### Node -/
structure Node where
  root : Root
  slot : Int
  parent : Int
  deriving DecidableEq
def Node.zero : Node := ⟨Root.zero, 0, 0⟩
def nodeC (v : Node) : List Value := rootC v.root ++ ([.int .i64 v.slot] ++ ([.int .i64 v.parent]))
theorem nodeC_len (v : Node) : (nodeC v).length = 34 := by simp [nodeC, rootC_len]
theorem nodeC_take' (v : Node) : (nodeC v).take 34 = nodeC v := List.take_of_length_le (by rw [nodeC_len]; exact Nat.le_refl _)
theorem nodeC_ta (v : Node) : ((nodeC v).drop 0).take 34 = nodeC v := nodeC_take' v
theorem nodeC_one (v : Node) : ∀ u ∈ nodeC v, u.oneCell' = true := fun u hu => by
  simp only [nodeC, List.mem_append, List.mem_singleton] at hu
  rcases hu with h | h | h
  · exact rootC_one _ u h
  · subst h; rfl
  · subst h; rfl
def encNode : Enc Node := ⟨nodeC, 34, nodeC_len, nodeC_one, by omega⟩
theorem nodeC_d0 (v : Node) : (nodeC v).drop 0 = rootC v.root ++ ([.int .i64 v.slot] ++ ([.int .i64 v.parent])) := rfl
theorem nodeC_f0 (v : Node) : ((nodeC v).drop 0).take 32 = rootC v.root := by
  rw [nodeC_d0]
  exact rootC_take _ _
theorem nodeC_af0 (v : Node) : ((nodeC v).toArray.toList.drop 0).take 32 = rootC v.root := nodeC_f0 v
theorem nodeC_d32 (v : Node) : (nodeC v).drop 32 = [.int .i64 v.slot] ++ ([.int .i64 v.parent]) := by
  simp only [nodeC, List.drop_append, List.length_append, rootC_len, List.length_singleton, List.length_cons, List.length_nil]
  have e : ∀ r : Root, (rootC r).drop 32 = [] := fun r => List.drop_eq_nil_of_le (by rw [rootC_len]; exact Nat.le_refl _)
  simp [e, List.drop_eq_nil_of_le, rootC_len]
theorem nodeC_l32 (v : Node) : (nodeC v)[32]? = some (.int .i64 v.slot) := by
  have h := nodeC_d32 v
  have h2 : ((nodeC v).drop 32)[0]? = some (.int .i64 v.slot) := by rw [h]; rfl
  rwa [List.getElem?_drop] at h2
theorem nodeC_a32 (v : Node) : (nodeC v).toArray[32]? = some (.int .i64 v.slot) := by
  rw [List.getElem?_toArray]; exact nodeC_l32 v
theorem nodeC_s32 (v : Node) (x : Int) : (nodeC v).toArray.setIfInBounds 32 (.int .i64 x) = (nodeC { v with slot := x }).toArray := by
  apply Array.toList_inj.1
  rw [Array.toList_setIfInBounds]
  show (nodeC v).set 32 _ = nodeC _
  unfold nodeC
  simp [List.set_append, rootC_len]
theorem nodeC_d33 (v : Node) : (nodeC v).drop 33 = [.int .i64 v.parent] := by
  simp only [nodeC, List.drop_append, List.length_append, rootC_len, List.length_singleton, List.length_cons, List.length_nil]
  have e : ∀ r : Root, (rootC r).drop 32 = [] := fun r => List.drop_eq_nil_of_le (by rw [rootC_len]; exact Nat.le_refl _)
  simp [e, List.drop_eq_nil_of_le, rootC_len]
theorem nodeC_l33 (v : Node) : (nodeC v)[33]? = some (.int .i64 v.parent) := by
  have h := nodeC_d33 v
  have h2 : ((nodeC v).drop 33)[0]? = some (.int .i64 v.parent) := by rw [h]; rfl
  rwa [List.getElem?_drop] at h2
theorem nodeC_a33 (v : Node) : (nodeC v).toArray[33]? = some (.int .i64 v.parent) := by
  rw [List.getElem?_toArray]; exact nodeC_l33 v
theorem nodeC_s33 (v : Node) (x : Int) : (nodeC v).toArray.setIfInBounds 33 (.int .i64 x) = (nodeC { v with parent := x }).toArray := by
  apply Array.toList_inj.1
  rw [Array.toList_setIfInBounds]
  show (nodeC v).set 33 _ = nodeC _
  unfold nodeC
  simp [List.set_append, rootC_len]
theorem nodeC_p0 (v : Node) (x : Root) : (nodeC v).take 0 ++ (rootC x) ++ (nodeC v).drop 32 = nodeC { v with root := x } := by
  unfold nodeC
  simp [List.take_append, List.drop_append, rootC_len, List.take_of_length_le, List.drop_eq_nil_of_le]
theorem nodeC_b0 (v : Node) (x : Root) (r : List (Nat × Value)) : fill2 [(0, 32), (32, 1), (33, 1)] (nodeC v) ((0, .agg (rootC x).toArray) :: r) = fill2 [(0, 32), (32, 1), (33, 1)] (nodeC { v with root := x }) r := congrArg (fun q => fill2 [(0, 32), (32, 1), (33, 1)] q r) (nodeC_p0 v x)
theorem nodeC_k0 (v : Node) (x : Root) {r : List (Nat × Value)} (h : FillOk [(0, 32), (32, 1), (33, 1)] (nodeC v).length r) : FillOk [(0, 32), (32, 1), (33, 1)] (nodeC v).length ((0, .agg (rootC x).toArray) :: r) := ⟨⟨by simp [Value.cells, rootC_len], by rw [nodeC_len]; rfl⟩, h⟩
theorem nodeC_p32 (v : Node) (x : Int) : (nodeC v).take 32 ++ ([.int .i64 x]) ++ (nodeC v).drop 33 = nodeC { v with slot := x } := by
  unfold nodeC
  simp [List.take_append, List.drop_append, rootC_len, List.take_of_length_le, List.drop_eq_nil_of_le]
theorem nodeC_b1 (v : Node) (x : Int) (r : List (Nat × Value)) : fill2 [(0, 32), (32, 1), (33, 1)] (nodeC v) ((1, .int .i64 x) :: r) = fill2 [(0, 32), (32, 1), (33, 1)] (nodeC { v with slot := x }) r := congrArg (fun q => fill2 [(0, 32), (32, 1), (33, 1)] q r) (nodeC_p32 v x)
theorem nodeC_k1 (v : Node) (x : Int) {r : List (Nat × Value)} (h : FillOk [(0, 32), (32, 1), (33, 1)] (nodeC v).length r) : FillOk [(0, 32), (32, 1), (33, 1)] (nodeC v).length ((1, .int .i64 x) :: r) := ⟨⟨by simp [Value.cells, ], by rw [nodeC_len]; rfl⟩, h⟩
theorem nodeC_p33 (v : Node) (x : Int) : (nodeC v).take 33 ++ ([.int .i64 x]) ++ (nodeC v).drop 34 = nodeC { v with parent := x } := by
  unfold nodeC
  simp [List.take_append, List.drop_append, rootC_len, List.take_of_length_le, List.drop_eq_nil_of_le]
theorem nodeC_b2 (v : Node) (x : Int) (r : List (Nat × Value)) : fill2 [(0, 32), (32, 1), (33, 1)] (nodeC v) ((2, .int .i64 x) :: r) = fill2 [(0, 32), (32, 1), (33, 1)] (nodeC { v with parent := x }) r := congrArg (fun q => fill2 [(0, 32), (32, 1), (33, 1)] q r) (nodeC_p33 v x)
theorem nodeC_k2 (v : Node) (x : Int) {r : List (Nat × Value)} (h : FillOk [(0, 32), (32, 1), (33, 1)] (nodeC v).length r) : FillOk [(0, 32), (32, 1), (33, 1)] (nodeC v).length ((2, .int .i64 x) :: r) := ⟨⟨by simp [Value.cells, ], by rw [nodeC_len]; rfl⟩, h⟩
theorem feq_Node {P : Program} {fs : List Field} {ti tr : TypeId} (hf : (fs.map fun f => (f.name, f.type, f.offset)) = [("Root", tr, 0), ("Slot", ti, 32), ("Parent", ti, 33)]) (hi : P.underlying ti = some (.int .i64)) (hr : rootB P tr = true) (a b : Node) : FEq P (nodeC a).toArray (nodeC b).toArray fs (decide (a = b)) := by
  obtain ⟨f0, f1, f2, rfl⟩ := list_len3 (by simpa using congrArg List.length hf)
  simp only [List.map_cons, List.map_nil, List.cons.injEq, Prod.mk.injEq, and_true] at hf
  obtain ⟨⟨n0, t0, o0⟩, ⟨n1, t1, o1⟩, ⟨n2, t2, o2⟩⟩ := hf
  have h := feq_root (P := P) (by rw [n0]; decide) (by rw [t0]; exact hr) (by rw [o0]; exact nodeC_af0 a) (by rw [o0]; exact nodeC_af0 b) (feq_int (P := P) (by rw [n1]; decide) (by rw [t1]; exact hi) (by rw [o1]; exact nodeC_a32 a) (by rw [o1]; exact nodeC_a32 b) (feq_int (by rw [n2]; decide) (by rw [t2]; exact hi) (by rw [o2]; exact nodeC_a33 a) (by rw [o2]; exact nodeC_a33 b) (feq_nil)))
  have e : (decide (a.root = b.root) && (decide (a.slot = b.slot) && (decide (a.parent = b.parent) && (true)))) = decide (a = b) := by
    rw [Bool.eq_iff_iff]
    cases a; cases b
    simp
  rw [← e]
  exact h
/-! ### Delta -/
structure Delta where
  root : Root
  n : Int
  deriving DecidableEq
def Delta.zero : Delta := ⟨Root.zero, 0⟩
def deltaC (v : Delta) : List Value := rootC v.root ++ ([.int .i64 v.n])
theorem deltaC_len (v : Delta) : (deltaC v).length = 33 := by simp [deltaC, rootC_len]
theorem deltaC_take' (v : Delta) : (deltaC v).take 33 = deltaC v := List.take_of_length_le (by rw [deltaC_len]; exact Nat.le_refl _)
theorem deltaC_ta (v : Delta) : ((deltaC v).drop 0).take 33 = deltaC v := deltaC_take' v
theorem deltaC_one (v : Delta) : ∀ u ∈ deltaC v, u.oneCell' = true := fun u hu => by
  simp only [deltaC, List.mem_append, List.mem_singleton] at hu
  rcases hu with h | h
  · exact rootC_one _ u h
  · subst h; rfl
def encDelta : Enc Delta := ⟨deltaC, 33, deltaC_len, deltaC_one, by omega⟩
theorem deltaC_d0 (v : Delta) : (deltaC v).drop 0 = rootC v.root ++ ([.int .i64 v.n]) := rfl
theorem deltaC_f0 (v : Delta) : ((deltaC v).drop 0).take 32 = rootC v.root := by
  rw [deltaC_d0]
  exact rootC_take _ _
theorem deltaC_af0 (v : Delta) : ((deltaC v).toArray.toList.drop 0).take 32 = rootC v.root := deltaC_f0 v
theorem deltaC_d32 (v : Delta) : (deltaC v).drop 32 = [.int .i64 v.n] := by
  simp only [deltaC, List.drop_append, List.length_append, rootC_len, List.length_singleton, List.length_cons, List.length_nil]
  have e : ∀ r : Root, (rootC r).drop 32 = [] := fun r => List.drop_eq_nil_of_le (by rw [rootC_len]; exact Nat.le_refl _)
  simp [e, List.drop_eq_nil_of_le, rootC_len]
theorem deltaC_l32 (v : Delta) : (deltaC v)[32]? = some (.int .i64 v.n) := by
  have h := deltaC_d32 v
  have h2 : ((deltaC v).drop 32)[0]? = some (.int .i64 v.n) := by rw [h]; rfl
  rwa [List.getElem?_drop] at h2
theorem deltaC_a32 (v : Delta) : (deltaC v).toArray[32]? = some (.int .i64 v.n) := by
  rw [List.getElem?_toArray]; exact deltaC_l32 v
theorem deltaC_s32 (v : Delta) (x : Int) : (deltaC v).toArray.setIfInBounds 32 (.int .i64 x) = (deltaC { v with n := x }).toArray := by
  apply Array.toList_inj.1
  rw [Array.toList_setIfInBounds]
  show (deltaC v).set 32 _ = deltaC _
  unfold deltaC
  simp [List.set_append, rootC_len]
theorem deltaC_p0 (v : Delta) (x : Root) : (deltaC v).take 0 ++ (rootC x) ++ (deltaC v).drop 32 = deltaC { v with root := x } := by
  unfold deltaC
  simp [List.take_append, List.drop_append, rootC_len, List.take_of_length_le, List.drop_eq_nil_of_le]
theorem deltaC_b0 (v : Delta) (x : Root) (r : List (Nat × Value)) : fill2 [(0, 32), (32, 1)] (deltaC v) ((0, .agg (rootC x).toArray) :: r) = fill2 [(0, 32), (32, 1)] (deltaC { v with root := x }) r := congrArg (fun q => fill2 [(0, 32), (32, 1)] q r) (deltaC_p0 v x)
theorem deltaC_k0 (v : Delta) (x : Root) {r : List (Nat × Value)} (h : FillOk [(0, 32), (32, 1)] (deltaC v).length r) : FillOk [(0, 32), (32, 1)] (deltaC v).length ((0, .agg (rootC x).toArray) :: r) := ⟨⟨by simp [Value.cells, rootC_len], by rw [deltaC_len]; rfl⟩, h⟩
theorem deltaC_p32 (v : Delta) (x : Int) : (deltaC v).take 32 ++ ([.int .i64 x]) ++ (deltaC v).drop 33 = deltaC { v with n := x } := by
  unfold deltaC
  simp [List.take_append, List.drop_append, rootC_len, List.take_of_length_le, List.drop_eq_nil_of_le]
theorem deltaC_b1 (v : Delta) (x : Int) (r : List (Nat × Value)) : fill2 [(0, 32), (32, 1)] (deltaC v) ((1, .int .i64 x) :: r) = fill2 [(0, 32), (32, 1)] (deltaC { v with n := x }) r := congrArg (fun q => fill2 [(0, 32), (32, 1)] q r) (deltaC_p32 v x)
theorem deltaC_k1 (v : Delta) (x : Int) {r : List (Nat × Value)} (h : FillOk [(0, 32), (32, 1)] (deltaC v).length r) : FillOk [(0, 32), (32, 1)] (deltaC v).length ((1, .int .i64 x) :: r) := ⟨⟨by simp [Value.cells, ], by rw [deltaC_len]; rfl⟩, h⟩
theorem feq_Delta {P : Program} {fs : List Field} {ti tr : TypeId} (hf : (fs.map fun f => (f.name, f.type, f.offset)) = [("Root", tr, 0), ("N", ti, 32)]) (hi : P.underlying ti = some (.int .i64)) (hr : rootB P tr = true) (a b : Delta) : FEq P (deltaC a).toArray (deltaC b).toArray fs (decide (a = b)) := by
  obtain ⟨f0, f1, rfl⟩ := list_len2 (by simpa using congrArg List.length hf)
  simp only [List.map_cons, List.map_nil, List.cons.injEq, Prod.mk.injEq, and_true] at hf
  obtain ⟨⟨n0, t0, o0⟩, ⟨n1, t1, o1⟩⟩ := hf
  have h := feq_root (P := P) (by rw [n0]; decide) (by rw [t0]; exact hr) (by rw [o0]; exact deltaC_af0 a) (by rw [o0]; exact deltaC_af0 b) (feq_int (P := P) (by rw [n1]; decide) (by rw [t1]; exact hi) (by rw [o1]; exact deltaC_a32 a) (by rw [o1]; exact deltaC_a32 b) (feq_nil))
  have e : (decide (a.root = b.root) && (decide (a.n = b.n) && (true))) = decide (a = b) := by
    rw [Bool.eq_iff_iff]
    cases a; cases b
    simp
  rw [← e]
  exact h
/-! ### TCall -/
structure TCall where
  fg : Bool
  who : Int
  slot : Int
  nr : Int
  deriving DecidableEq
def TCall.zero : TCall := ⟨false, 0, 0, 0⟩
def tCallC (v : TCall) : List Value := [.bool v.fg] ++ ([.int .i64 v.who] ++ ([.int .i64 v.slot] ++ ([.int .i64 v.nr])))
theorem tCallC_len (v : TCall) : (tCallC v).length = 4 := by simp [tCallC, rootC_len]
theorem tCallC_take' (v : TCall) : (tCallC v).take 4 = tCallC v := List.take_of_length_le (by rw [tCallC_len]; exact Nat.le_refl _)
theorem tCallC_ta (v : TCall) : ((tCallC v).drop 0).take 4 = tCallC v := tCallC_take' v
theorem tCallC_one (v : TCall) : ∀ u ∈ tCallC v, u.oneCell' = true := fun u hu => by
  simp only [tCallC, List.mem_append, List.mem_singleton] at hu
  rcases hu with h | h | h | h
  · subst h; rfl
  · subst h; rfl
  · subst h; rfl
  · subst h; rfl
def encTCall : Enc TCall := ⟨tCallC, 4, tCallC_len, tCallC_one, by omega⟩
theorem tCallC_d0 (v : TCall) : (tCallC v).drop 0 = [.bool v.fg] ++ ([.int .i64 v.who] ++ ([.int .i64 v.slot] ++ ([.int .i64 v.nr]))) := rfl
theorem tCallC_l0 (v : TCall) : (tCallC v)[0]? = some (.bool v.fg) := by
  have h := tCallC_d0 v
  have h2 : ((tCallC v).drop 0)[0]? = some (.bool v.fg) := by rw [h]; rfl
  rwa [List.getElem?_drop] at h2
theorem tCallC_a0 (v : TCall) : (tCallC v).toArray[0]? = some (.bool v.fg) := by
  rw [List.getElem?_toArray]; exact tCallC_l0 v
theorem tCallC_s0 (v : TCall) (x : Bool) : (tCallC v).toArray.setIfInBounds 0 (.bool x) = (tCallC { v with fg := x }).toArray := by
  apply Array.toList_inj.1
  rw [Array.toList_setIfInBounds]
  show (tCallC v).set 0 _ = tCallC _
  unfold tCallC
  simp [List.set_append, rootC_len]
theorem tCallC_d1 (v : TCall) : (tCallC v).drop 1 = [.int .i64 v.who] ++ ([.int .i64 v.slot] ++ ([.int .i64 v.nr])) := rfl
theorem tCallC_l1 (v : TCall) : (tCallC v)[1]? = some (.int .i64 v.who) := by
  have h := tCallC_d1 v
  have h2 : ((tCallC v).drop 1)[0]? = some (.int .i64 v.who) := by rw [h]; rfl
  rwa [List.getElem?_drop] at h2
theorem tCallC_a1 (v : TCall) : (tCallC v).toArray[1]? = some (.int .i64 v.who) := by
  rw [List.getElem?_toArray]; exact tCallC_l1 v
theorem tCallC_s1 (v : TCall) (x : Int) : (tCallC v).toArray.setIfInBounds 1 (.int .i64 x) = (tCallC { v with who := x }).toArray := by
  apply Array.toList_inj.1
  rw [Array.toList_setIfInBounds]
  show (tCallC v).set 1 _ = tCallC _
  unfold tCallC
  simp [List.set_append, rootC_len]
theorem tCallC_d2 (v : TCall) : (tCallC v).drop 2 = [.int .i64 v.slot] ++ ([.int .i64 v.nr]) := rfl
theorem tCallC_l2 (v : TCall) : (tCallC v)[2]? = some (.int .i64 v.slot) := by
  have h := tCallC_d2 v
  have h2 : ((tCallC v).drop 2)[0]? = some (.int .i64 v.slot) := by rw [h]; rfl
  rwa [List.getElem?_drop] at h2
theorem tCallC_a2 (v : TCall) : (tCallC v).toArray[2]? = some (.int .i64 v.slot) := by
  rw [List.getElem?_toArray]; exact tCallC_l2 v
theorem tCallC_s2 (v : TCall) (x : Int) : (tCallC v).toArray.setIfInBounds 2 (.int .i64 x) = (tCallC { v with slot := x }).toArray := by
  apply Array.toList_inj.1
  rw [Array.toList_setIfInBounds]
  show (tCallC v).set 2 _ = tCallC _
  unfold tCallC
  simp [List.set_append, rootC_len]
theorem tCallC_d3 (v : TCall) : (tCallC v).drop 3 = [.int .i64 v.nr] := rfl
theorem tCallC_l3 (v : TCall) : (tCallC v)[3]? = some (.int .i64 v.nr) := by
  have h := tCallC_d3 v
  have h2 : ((tCallC v).drop 3)[0]? = some (.int .i64 v.nr) := by rw [h]; rfl
  rwa [List.getElem?_drop] at h2
theorem tCallC_a3 (v : TCall) : (tCallC v).toArray[3]? = some (.int .i64 v.nr) := by
  rw [List.getElem?_toArray]; exact tCallC_l3 v
theorem tCallC_s3 (v : TCall) (x : Int) : (tCallC v).toArray.setIfInBounds 3 (.int .i64 x) = (tCallC { v with nr := x }).toArray := by
  apply Array.toList_inj.1
  rw [Array.toList_setIfInBounds]
  show (tCallC v).set 3 _ = tCallC _
  unfold tCallC
  simp [List.set_append, rootC_len]
theorem tCallC_p0 (v : TCall) (x : Bool) : (tCallC v).take 0 ++ ([.bool x]) ++ (tCallC v).drop 1 = tCallC { v with fg := x } := by
  unfold tCallC
  simp [List.take_append, List.drop_append, rootC_len, List.take_of_length_le, List.drop_eq_nil_of_le]
theorem tCallC_b0 (v : TCall) (x : Bool) (r : List (Nat × Value)) : fill2 [(0, 1), (1, 1), (2, 1), (3, 1)] (tCallC v) ((0, .bool x) :: r) = fill2 [(0, 1), (1, 1), (2, 1), (3, 1)] (tCallC { v with fg := x }) r := congrArg (fun q => fill2 [(0, 1), (1, 1), (2, 1), (3, 1)] q r) (tCallC_p0 v x)
theorem tCallC_k0 (v : TCall) (x : Bool) {r : List (Nat × Value)} (h : FillOk [(0, 1), (1, 1), (2, 1), (3, 1)] (tCallC v).length r) : FillOk [(0, 1), (1, 1), (2, 1), (3, 1)] (tCallC v).length ((0, .bool x) :: r) := ⟨⟨by simp [Value.cells, ], by rw [tCallC_len]; rfl⟩, h⟩
theorem tCallC_p1 (v : TCall) (x : Int) : (tCallC v).take 1 ++ ([.int .i64 x]) ++ (tCallC v).drop 2 = tCallC { v with who := x } := by
  unfold tCallC
  simp [List.take_append, List.drop_append, rootC_len, List.take_of_length_le, List.drop_eq_nil_of_le]
theorem tCallC_b1 (v : TCall) (x : Int) (r : List (Nat × Value)) : fill2 [(0, 1), (1, 1), (2, 1), (3, 1)] (tCallC v) ((1, .int .i64 x) :: r) = fill2 [(0, 1), (1, 1), (2, 1), (3, 1)] (tCallC { v with who := x }) r := congrArg (fun q => fill2 [(0, 1), (1, 1), (2, 1), (3, 1)] q r) (tCallC_p1 v x)
theorem tCallC_k1 (v : TCall) (x : Int) {r : List (Nat × Value)} (h : FillOk [(0, 1), (1, 1), (2, 1), (3, 1)] (tCallC v).length r) : FillOk [(0, 1), (1, 1), (2, 1), (3, 1)] (tCallC v).length ((1, .int .i64 x) :: r) := ⟨⟨by simp [Value.cells, ], by rw [tCallC_len]; rfl⟩, h⟩
theorem tCallC_p2 (v : TCall) (x : Int) : (tCallC v).take 2 ++ ([.int .i64 x]) ++ (tCallC v).drop 3 = tCallC { v with slot := x } := by
  unfold tCallC
  simp [List.take_append, List.drop_append, rootC_len, List.take_of_length_le, List.drop_eq_nil_of_le]
theorem tCallC_b2 (v : TCall) (x : Int) (r : List (Nat × Value)) : fill2 [(0, 1), (1, 1), (2, 1), (3, 1)] (tCallC v) ((2, .int .i64 x) :: r) = fill2 [(0, 1), (1, 1), (2, 1), (3, 1)] (tCallC { v with slot := x }) r := congrArg (fun q => fill2 [(0, 1), (1, 1), (2, 1), (3, 1)] q r) (tCallC_p2 v x)
theorem tCallC_k2 (v : TCall) (x : Int) {r : List (Nat × Value)} (h : FillOk [(0, 1), (1, 1), (2, 1), (3, 1)] (tCallC v).length r) : FillOk [(0, 1), (1, 1), (2, 1), (3, 1)] (tCallC v).length ((2, .int .i64 x) :: r) := ⟨⟨by simp [Value.cells, ], by rw [tCallC_len]; rfl⟩, h⟩
theorem tCallC_p3 (v : TCall) (x : Int) : (tCallC v).take 3 ++ ([.int .i64 x]) ++ (tCallC v).drop 4 = tCallC { v with nr := x } := by
  unfold tCallC
  simp [List.take_append, List.drop_append, rootC_len, List.take_of_length_le, List.drop_eq_nil_of_le]
theorem tCallC_b3 (v : TCall) (x : Int) (r : List (Nat × Value)) : fill2 [(0, 1), (1, 1), (2, 1), (3, 1)] (tCallC v) ((3, .int .i64 x) :: r) = fill2 [(0, 1), (1, 1), (2, 1), (3, 1)] (tCallC { v with nr := x }) r := congrArg (fun q => fill2 [(0, 1), (1, 1), (2, 1), (3, 1)] q r) (tCallC_p3 v x)
theorem tCallC_k3 (v : TCall) (x : Int) {r : List (Nat × Value)} (h : FillOk [(0, 1), (1, 1), (2, 1), (3, 1)] (tCallC v).length r) : FillOk [(0, 1), (1, 1), (2, 1), (3, 1)] (tCallC v).length ((3, .int .i64 x) :: r) := ⟨⟨by simp [Value.cells, ], by rw [tCallC_len]; rfl⟩, h⟩
/-! ### TAdd -/
structure TAdd where
  root : Int
  parent : Int
  slot : Int
  deriving DecidableEq
def TAdd.zero : TAdd := ⟨0, 0, 0⟩
def tAddC (v : TAdd) : List Value := [.int .i64 v.root] ++ ([.int .i64 v.parent] ++ ([.int .i64 v.slot]))
theorem tAddC_len (v : TAdd) : (tAddC v).length = 3 := by simp [tAddC, rootC_len]
theorem tAddC_take' (v : TAdd) : (tAddC v).take 3 = tAddC v := List.take_of_length_le (by rw [tAddC_len]; exact Nat.le_refl _)
theorem tAddC_ta (v : TAdd) : ((tAddC v).drop 0).take 3 = tAddC v := tAddC_take' v
theorem tAddC_one (v : TAdd) : ∀ u ∈ tAddC v, u.oneCell' = true := fun u hu => by
  simp only [tAddC, List.mem_append, List.mem_singleton] at hu
  rcases hu with h | h | h
  · subst h; rfl
  · subst h; rfl
  · subst h; rfl
def encTAdd : Enc TAdd := ⟨tAddC, 3, tAddC_len, tAddC_one, by omega⟩
theorem tAddC_d0 (v : TAdd) : (tAddC v).drop 0 = [.int .i64 v.root] ++ ([.int .i64 v.parent] ++ ([.int .i64 v.slot])) := rfl
theorem tAddC_l0 (v : TAdd) : (tAddC v)[0]? = some (.int .i64 v.root) := by
  have h := tAddC_d0 v
  have h2 : ((tAddC v).drop 0)[0]? = some (.int .i64 v.root) := by rw [h]; rfl
  rwa [List.getElem?_drop] at h2
theorem tAddC_a0 (v : TAdd) : (tAddC v).toArray[0]? = some (.int .i64 v.root) := by
  rw [List.getElem?_toArray]; exact tAddC_l0 v
theorem tAddC_s0 (v : TAdd) (x : Int) : (tAddC v).toArray.setIfInBounds 0 (.int .i64 x) = (tAddC { v with root := x }).toArray := by
  apply Array.toList_inj.1
  rw [Array.toList_setIfInBounds]
  show (tAddC v).set 0 _ = tAddC _
  unfold tAddC
  simp [List.set_append, rootC_len]
theorem tAddC_d1 (v : TAdd) : (tAddC v).drop 1 = [.int .i64 v.parent] ++ ([.int .i64 v.slot]) := rfl
theorem tAddC_l1 (v : TAdd) : (tAddC v)[1]? = some (.int .i64 v.parent) := by
  have h := tAddC_d1 v
  have h2 : ((tAddC v).drop 1)[0]? = some (.int .i64 v.parent) := by rw [h]; rfl
  rwa [List.getElem?_drop] at h2
theorem tAddC_a1 (v : TAdd) : (tAddC v).toArray[1]? = some (.int .i64 v.parent) := by
  rw [List.getElem?_toArray]; exact tAddC_l1 v
theorem tAddC_s1 (v : TAdd) (x : Int) : (tAddC v).toArray.setIfInBounds 1 (.int .i64 x) = (tAddC { v with parent := x }).toArray := by
  apply Array.toList_inj.1
  rw [Array.toList_setIfInBounds]
  show (tAddC v).set 1 _ = tAddC _
  unfold tAddC
  simp [List.set_append, rootC_len]
theorem tAddC_d2 (v : TAdd) : (tAddC v).drop 2 = [.int .i64 v.slot] := rfl
theorem tAddC_l2 (v : TAdd) : (tAddC v)[2]? = some (.int .i64 v.slot) := by
  have h := tAddC_d2 v
  have h2 : ((tAddC v).drop 2)[0]? = some (.int .i64 v.slot) := by rw [h]; rfl
  rwa [List.getElem?_drop] at h2
theorem tAddC_a2 (v : TAdd) : (tAddC v).toArray[2]? = some (.int .i64 v.slot) := by
  rw [List.getElem?_toArray]; exact tAddC_l2 v
theorem tAddC_s2 (v : TAdd) (x : Int) : (tAddC v).toArray.setIfInBounds 2 (.int .i64 x) = (tAddC { v with slot := x }).toArray := by
  apply Array.toList_inj.1
  rw [Array.toList_setIfInBounds]
  show (tAddC v).set 2 _ = tAddC _
  unfold tAddC
  simp [List.set_append, rootC_len]
theorem tAddC_p0 (v : TAdd) (x : Int) : (tAddC v).take 0 ++ ([.int .i64 x]) ++ (tAddC v).drop 1 = tAddC { v with root := x } := by
  unfold tAddC
  simp [List.take_append, List.drop_append, rootC_len, List.take_of_length_le, List.drop_eq_nil_of_le]
theorem tAddC_b0 (v : TAdd) (x : Int) (r : List (Nat × Value)) : fill2 [(0, 1), (1, 1), (2, 1)] (tAddC v) ((0, .int .i64 x) :: r) = fill2 [(0, 1), (1, 1), (2, 1)] (tAddC { v with root := x }) r := congrArg (fun q => fill2 [(0, 1), (1, 1), (2, 1)] q r) (tAddC_p0 v x)
theorem tAddC_k0 (v : TAdd) (x : Int) {r : List (Nat × Value)} (h : FillOk [(0, 1), (1, 1), (2, 1)] (tAddC v).length r) : FillOk [(0, 1), (1, 1), (2, 1)] (tAddC v).length ((0, .int .i64 x) :: r) := ⟨⟨by simp [Value.cells, ], by rw [tAddC_len]; rfl⟩, h⟩
theorem tAddC_p1 (v : TAdd) (x : Int) : (tAddC v).take 1 ++ ([.int .i64 x]) ++ (tAddC v).drop 2 = tAddC { v with parent := x } := by
  unfold tAddC
  simp [List.take_append, List.drop_append, rootC_len, List.take_of_length_le, List.drop_eq_nil_of_le]
theorem tAddC_b1 (v : TAdd) (x : Int) (r : List (Nat × Value)) : fill2 [(0, 1), (1, 1), (2, 1)] (tAddC v) ((1, .int .i64 x) :: r) = fill2 [(0, 1), (1, 1), (2, 1)] (tAddC { v with parent := x }) r := congrArg (fun q => fill2 [(0, 1), (1, 1), (2, 1)] q r) (tAddC_p1 v x)
theorem tAddC_k1 (v : TAdd) (x : Int) {r : List (Nat × Value)} (h : FillOk [(0, 1), (1, 1), (2, 1)] (tAddC v).length r) : FillOk [(0, 1), (1, 1), (2, 1)] (tAddC v).length ((1, .int .i64 x) :: r) := ⟨⟨by simp [Value.cells, ], by rw [tAddC_len]; rfl⟩, h⟩
theorem tAddC_p2 (v : TAdd) (x : Int) : (tAddC v).take 2 ++ ([.int .i64 x]) ++ (tAddC v).drop 3 = tAddC { v with slot := x } := by
  unfold tAddC
  simp [List.take_append, List.drop_append, rootC_len, List.take_of_length_le, List.drop_eq_nil_of_le]
theorem tAddC_b2 (v : TAdd) (x : Int) (r : List (Nat × Value)) : fill2 [(0, 1), (1, 1), (2, 1)] (tAddC v) ((2, .int .i64 x) :: r) = fill2 [(0, 1), (1, 1), (2, 1)] (tAddC { v with slot := x }) r := congrArg (fun q => fill2 [(0, 1), (1, 1), (2, 1)] q r) (tAddC_p2 v x)
theorem tAddC_k2 (v : TAdd) (x : Int) {r : List (Nat × Value)} (h : FillOk [(0, 1), (1, 1), (2, 1)] (tAddC v).length r) : FillOk [(0, 1), (1, 1), (2, 1)] (tAddC v).length ((2, .int .i64 x) :: r) := ⟨⟨by simp [Value.cells, ], by rw [tAddC_len]; rfl⟩, h⟩
theorem feq_TAdd {P : Program} {fs : List Field} {ti tr : TypeId} (hf : (fs.map fun f => (f.name, f.type, f.offset)) = [("Root", ti, 0), ("Parent", ti, 1), ("Slot", ti, 2)]) (hi : P.underlying ti = some (.int .i64)) (hr : rootB P tr = true) (a b : TAdd) : FEq P (tAddC a).toArray (tAddC b).toArray fs (decide (a = b)) := by
  obtain ⟨f0, f1, f2, rfl⟩ := list_len3 (by simpa using congrArg List.length hf)
  simp only [List.map_cons, List.map_nil, List.cons.injEq, Prod.mk.injEq, and_true] at hf
  obtain ⟨⟨n0, t0, o0⟩, ⟨n1, t1, o1⟩, ⟨n2, t2, o2⟩⟩ := hf
  have h := feq_int (P := P) (by rw [n0]; decide) (by rw [t0]; exact hi) (by rw [o0]; exact tAddC_a0 a) (by rw [o0]; exact tAddC_a0 b) (feq_int (by rw [n1]; decide) (by rw [t1]; exact hi) (by rw [o1]; exact tAddC_a1 a) (by rw [o1]; exact tAddC_a1 b) (feq_int (by rw [n2]; decide) (by rw [t2]; exact hi) (by rw [o2]; exact tAddC_a2 a) (by rw [o2]; exact tAddC_a2 b) (feq_nil)))
  have e : (decide (a.root = b.root) && (decide (a.parent = b.parent) && (decide (a.slot = b.slot) && (true)))) = decide (a = b) := by
    rw [Bool.eq_iff_iff]
    cases a; cases b
    simp
  rw [← e]
  exact h
/-! ### First -/
structure First where
  who : Int
  epoch : Int
  target : Root
  deriving DecidableEq
def First.zero : First := ⟨0, 0, Root.zero⟩
def firstC (v : First) : List Value := [.int .i64 v.who] ++ ([.int .i64 v.epoch] ++ (rootC v.target))
theorem firstC_len (v : First) : (firstC v).length = 34 := by simp [firstC, rootC_len]
theorem firstC_take' (v : First) : (firstC v).take 34 = firstC v := List.take_of_length_le (by rw [firstC_len]; exact Nat.le_refl _)
theorem firstC_ta (v : First) : ((firstC v).drop 0).take 34 = firstC v := firstC_take' v
theorem firstC_one (v : First) : ∀ u ∈ firstC v, u.oneCell' = true := fun u hu => by
  simp only [firstC, List.mem_append, List.mem_singleton] at hu
  rcases hu with h | h | h
  · subst h; rfl
  · subst h; rfl
  · exact rootC_one _ u h
def encFirst : Enc First := ⟨firstC, 34, firstC_len, firstC_one, by omega⟩
theorem firstC_d0 (v : First) : (firstC v).drop 0 = [.int .i64 v.who] ++ ([.int .i64 v.epoch] ++ (rootC v.target)) := rfl
theorem firstC_l0 (v : First) : (firstC v)[0]? = some (.int .i64 v.who) := by
  have h := firstC_d0 v
  have h2 : ((firstC v).drop 0)[0]? = some (.int .i64 v.who) := by rw [h]; rfl
  rwa [List.getElem?_drop] at h2
theorem firstC_a0 (v : First) : (firstC v).toArray[0]? = some (.int .i64 v.who) := by
  rw [List.getElem?_toArray]; exact firstC_l0 v
theorem firstC_s0 (v : First) (x : Int) : (firstC v).toArray.setIfInBounds 0 (.int .i64 x) = (firstC { v with who := x }).toArray := by
  apply Array.toList_inj.1
  rw [Array.toList_setIfInBounds]
  show (firstC v).set 0 _ = firstC _
  unfold firstC
  simp [List.set_append, rootC_len]
theorem firstC_d1 (v : First) : (firstC v).drop 1 = [.int .i64 v.epoch] ++ (rootC v.target) := rfl
theorem firstC_l1 (v : First) : (firstC v)[1]? = some (.int .i64 v.epoch) := by
  have h := firstC_d1 v
  have h2 : ((firstC v).drop 1)[0]? = some (.int .i64 v.epoch) := by rw [h]; rfl
  rwa [List.getElem?_drop] at h2
theorem firstC_a1 (v : First) : (firstC v).toArray[1]? = some (.int .i64 v.epoch) := by
  rw [List.getElem?_toArray]; exact firstC_l1 v
theorem firstC_s1 (v : First) (x : Int) : (firstC v).toArray.setIfInBounds 1 (.int .i64 x) = (firstC { v with epoch := x }).toArray := by
  apply Array.toList_inj.1
  rw [Array.toList_setIfInBounds]
  show (firstC v).set 1 _ = firstC _
  unfold firstC
  simp [List.set_append, rootC_len]
theorem firstC_d2 (v : First) : (firstC v).drop 2 = rootC v.target := rfl
theorem firstC_f2 (v : First) : ((firstC v).drop 2).take 32 = rootC v.target := by
  rw [firstC_d2]
  exact rootC_take' _
theorem firstC_af2 (v : First) : ((firstC v).toArray.toList.drop 2).take 32 = rootC v.target := firstC_f2 v
theorem firstC_p0 (v : First) (x : Int) : (firstC v).take 0 ++ ([.int .i64 x]) ++ (firstC v).drop 1 = firstC { v with who := x } := by
  unfold firstC
  simp [List.take_append, List.drop_append, rootC_len, List.take_of_length_le, List.drop_eq_nil_of_le]
theorem firstC_b0 (v : First) (x : Int) (r : List (Nat × Value)) : fill2 [(0, 1), (1, 1), (2, 32)] (firstC v) ((0, .int .i64 x) :: r) = fill2 [(0, 1), (1, 1), (2, 32)] (firstC { v with who := x }) r := congrArg (fun q => fill2 [(0, 1), (1, 1), (2, 32)] q r) (firstC_p0 v x)
theorem firstC_k0 (v : First) (x : Int) {r : List (Nat × Value)} (h : FillOk [(0, 1), (1, 1), (2, 32)] (firstC v).length r) : FillOk [(0, 1), (1, 1), (2, 32)] (firstC v).length ((0, .int .i64 x) :: r) := ⟨⟨by simp [Value.cells, ], by rw [firstC_len]; rfl⟩, h⟩
theorem firstC_p1 (v : First) (x : Int) : (firstC v).take 1 ++ ([.int .i64 x]) ++ (firstC v).drop 2 = firstC { v with epoch := x } := by
  unfold firstC
  simp [List.take_append, List.drop_append, rootC_len, List.take_of_length_le, List.drop_eq_nil_of_le]
theorem firstC_b1 (v : First) (x : Int) (r : List (Nat × Value)) : fill2 [(0, 1), (1, 1), (2, 32)] (firstC v) ((1, .int .i64 x) :: r) = fill2 [(0, 1), (1, 1), (2, 32)] (firstC { v with epoch := x }) r := congrArg (fun q => fill2 [(0, 1), (1, 1), (2, 32)] q r) (firstC_p1 v x)
theorem firstC_k1 (v : First) (x : Int) {r : List (Nat × Value)} (h : FillOk [(0, 1), (1, 1), (2, 32)] (firstC v).length r) : FillOk [(0, 1), (1, 1), (2, 32)] (firstC v).length ((1, .int .i64 x) :: r) := ⟨⟨by simp [Value.cells, ], by rw [firstC_len]; rfl⟩, h⟩
theorem firstC_p2 (v : First) (x : Root) : (firstC v).take 2 ++ (rootC x) ++ (firstC v).drop 34 = firstC { v with target := x } := by
  unfold firstC
  simp [List.take_append, List.drop_append, rootC_len, List.take_of_length_le, List.drop_eq_nil_of_le]
theorem firstC_b2 (v : First) (x : Root) (r : List (Nat × Value)) : fill2 [(0, 1), (1, 1), (2, 32)] (firstC v) ((2, .agg (rootC x).toArray) :: r) = fill2 [(0, 1), (1, 1), (2, 32)] (firstC { v with target := x }) r := congrArg (fun q => fill2 [(0, 1), (1, 1), (2, 32)] q r) (firstC_p2 v x)
theorem firstC_k2 (v : First) (x : Root) {r : List (Nat × Value)} (h : FillOk [(0, 1), (1, 1), (2, 32)] (firstC v).length r) : FillOk [(0, 1), (1, 1), (2, 32)] (firstC v).length ((2, .agg (rootC x).toArray) :: r) := ⟨⟨by simp [Value.cells, rootC_len], by rw [firstC_len]; rfl⟩, h⟩
theorem feq_First {P : Program} {fs : List Field} {ti tr : TypeId} (hf : (fs.map fun f => (f.name, f.type, f.offset)) = [("Who", ti, 0), ("Epoch", ti, 1), ("For", tr, 2)]) (hi : P.underlying ti = some (.int .i64)) (hr : rootB P tr = true) (a b : First) : FEq P (firstC a).toArray (firstC b).toArray fs (decide (a = b)) := by
  obtain ⟨f0, f1, f2, rfl⟩ := list_len3 (by simpa using congrArg List.length hf)
  simp only [List.map_cons, List.map_nil, List.cons.injEq, Prod.mk.injEq, and_true] at hf
  obtain ⟨⟨n0, t0, o0⟩, ⟨n1, t1, o1⟩, ⟨n2, t2, o2⟩⟩ := hf
  have h := feq_int (P := P) (by rw [n0]; decide) (by rw [t0]; exact hi) (by rw [o0]; exact firstC_a0 a) (by rw [o0]; exact firstC_a0 b) (feq_int (by rw [n1]; decide) (by rw [t1]; exact hi) (by rw [o1]; exact firstC_a1 a) (by rw [o1]; exact firstC_a1 b) (feq_root (P := P) (by rw [n2]; decide) (by rw [t2]; exact hr) (by rw [o2]; exact firstC_af2 a) (by rw [o2]; exact firstC_af2 b) (feq_nil)))
  have e : (decide (a.who = b.who) && (decide (a.epoch = b.epoch) && (decide (a.target = b.target) && (true)))) = decide (a = b) := by
    rw [Bool.eq_iff_iff]
    cases a; cases b
    simp
  rw [← e]
  exact h
end Go.SL

set_option linter.unusedVariables false
set_option linter.unusedSimpArgs false
namespace Go.SL
/-! ### Whole numbers as bytes -/
def byteI (n : Int) : UInt8 := UInt8.ofNat (n % 256).toNat
theorem wrap_u8_int (n : Int) : IntKind.u8.wrap n = ((byteI n).toNat : Int) := by
  have h : IntKind.u8.wrap n = n % 256 := by simp [IntKind.wrap, IntKind.signed, IntKind.bits]
  rw [h]
  unfold byteI
  simp only [UInt8.toNat_ofNat']
  omega
section
variable {P : Program} {w0 w : World} {n : Nat} {f : Fr} {l l' : List HProp} {d : Option Tmp} {ty : TypeId} {pos : String} {aft : Array Edge} {g : Option (Nat × Bool)} {x y z : Operand} {T T' : TypeId} {v : Value}
theorem op_conv8i {k : IntKind} {A : Int} (hu : P.underlying T' = some (.int .u8)) (hT : (P.underlying T).isSome = true) (hx : ev f x = .int k A) : OP P w0 n ⟨d, .convert T T' x, ty, pos, aft, g⟩ f l (.int .u8 ((byteI A).toNat : Int)) := by
  have := op_convi (P := P) (w0 := w0) (n := n) (l := l) (d := d) (ty := ty) (pos := pos) (aft := aft) (g := g) hu hT hx
  rw [wrap_u8_int] at this
  exact this
/-- a store into a name's byte -/
theorem os_storer {T b j : Nat} {r : Root} {t : TypeId} {fr : Nat × Nat} (u : UInt8) (hT : scalarB P T = true) (hx : ev f x = .pointer (some ⟨b, j, none⟩)) (hy : ev f y = .int .u8 (u.toNat : Int)) (hj : j < 32) (hf : Free 32 fr) :
    OS P w0 n ⟨d, .store T x y, ty, pos, aft, g⟩ f (Blk b (.cells (rootC r).toArray t fr) :: l) (fun q l' => q = undef ∧ l' = Blk b (.cells (rootC (r.set j u)).toArray t fr) :: l) :=
  os_store hT hx hy rfl (Nat.ble_eq_true_of_le (by simp [rootC_len]; omega)) (by simpa [rootC_len] using hf) (rootC_set r j u)
/-- a name is stored -/
theorem os_storera {T b : Nat} {q : Root} {t : TypeId} {fr : Nat × Nat} (r : Root) (hT : aggB P T = some 32) (hx : ev f x = .pointer (some ⟨b, 0, none⟩)) (hy : ev f y = .agg (rootC r).toArray) (hf : Free 32 fr) :
    OS P w0 n ⟨d, .store T x y, ty, pos, aft, g⟩ f (Blk b (.cells (rootC q).toArray t fr) :: l) (fun u l' => u = undef ∧ l' = Blk b (.cells (rootC r).toArray t fr) :: l) :=
  os_storea hT hx hy (rootC_len r) (rootC_one r) (Nat.ble_eq_true_of_le (by simp [rootC_len])) (by simpa [rootC_len] using hf) (by
    have : (rootC q).drop 32 = [] := List.drop_eq_nil_of_le (by rw [rootC_len]; exact Nat.le_refl _)
    simp [this])
/-- a whole block is written over -/
theorem os_storew {T b k : Nat} {cs : Array Value} {t : TypeId} {fr : Nat × Nat} (L : List Value) (hT : aggB P T = some k) (hx : ev f x = .pointer (some ⟨b, 0, none⟩)) (hy : ev f y = .agg L.toArray) (hk : L.length = k) (h1 : ∀ v ∈ L, v.oneCell' = true) (hcs : cs.size = k) (hf : Free k fr) :
    OS P w0 n ⟨d, .store T x y, ty, pos, aft, g⟩ f (Blk b (.cells cs t fr) :: l) (fun u l' => u = undef ∧ l' = Blk b (.cells L.toArray t fr) :: l) :=
  os_storea hT hx hy hk h1 (Nat.ble_eq_true_of_le (by omega)) (by rw [hcs]; exact hf) (by
    have : cs.toList.drop k = [] := List.drop_eq_nil_of_le (by simp [hcs])
    simp [this])
end
end Go.SL

set_option linter.unusedVariables false
set_option linter.unusedSimpArgs false
namespace Go.SL
/-! ### A whole element is stored -/
theorem _root_.List.drop_drop_add {α : Type} (i j : Nat) (l : List α) : (l.drop i).drop j = l.drop (i + j) := by rw [List.drop_drop]
section
variable {α : Type} {E : Enc α} {P : Program} {w0 w : World} {n : Nat} {f : Fr} {l l' : List HProp} {d : Option Tmp} {ty : TypeId} {pos : String} {aft : Array Edge} {g : Option (Nat × Bool)} {x y z : Operand} {T T' : TypeId} {u v : Value} {ao : Option Addr} {xs : List α}
theorem flat_set_all (xs : List α) (i : Nat) (x : α) (hi : i < xs.length) : (E.flat xs).take (i * E.size) ++ E.cells x ++ (E.flat xs).drop (i * E.size + E.size) = E.flat (xs.set i x) := by
  induction xs generalizing i with
  | nil => simp at hi
  | cons y xs ih =>
    cases i with
    | zero =>
      simp only [Nat.zero_mul, List.take_zero, List.nil_append, Nat.zero_add, List.set_cons_zero, E.flat_cons]
      rw [List.drop_append_of_le_length (by rw [E.len]; exact Nat.le_refl _), List.drop_eq_nil_of_le (by rw [E.len]; exact Nat.le_refl _), List.nil_append]
    | succ i =>
      have h1 : (i + 1) * E.size = E.size + i * E.size := by rw [Nat.add_mul, Nat.one_mul, Nat.add_comm]
      have h2 : (i + 1) * E.size + E.size = E.size + (i * E.size + E.size) := by omega
      rw [List.set_cons_succ, E.flat_cons, E.flat_cons, ← ih i (by simpa using hi), h2, h1]
      have hl := E.len y
      rw [← hl, List.take_length_add_append, List.drop_length_add_append]
      simp only [List.append_assoc]
theorem os_stew {q e m c k : Nat} {L : List Value} {x' : α} (i : Nat) (hT : aggB P T = some k) (hx : ev f x = .pointer (oad ao q)) (hy : ev f y = .agg L.toArray) (hk : E.size = k) (hL : E.cells x' = L) (hi : i < xs.length) (hq : q = i * E.size) (hv : u = .slice ao m c) :
    OS P w0 n ⟨d, .store T x y, ty, pos, aft, g⟩ f (Row e E u xs :: l) (fun z l' => z = undef ∧ l' = Row e E u (xs.set i x') :: l) := fun a w r s => by
  subst hq hk hL
  rcases s.rowOpen with ⟨rfl, rfl, s'⟩ | ⟨g0, off, cap, cur, fr, rfl, h2, h3, h4, h5, hf, s'⟩
  · simp at hi
  · injection hv with e1 e2 e3
    subst e1
    have hsz : i * E.size + E.size ≤ cap * E.size := by rw [← Nat.succ_mul]; exact Nat.mul_le_mul_right _ (by omega)
    have hsx : i * E.size + E.size ≤ xs.length * E.size := by rw [← Nat.succ_mul]; exact Nat.mul_le_mul_right _ (by omega)
    have hxc : xs.length * E.size ≤ cap * E.size := Nat.mul_le_mul_right _ h2
    have hcl : cur.toList.length = cur.size := by simp
    have hlen := E.len x'
    have hst := run_storeCells_row P g0 (off + i * E.size) e fr (E.cells x') 0 cur w s'.blk (by rw [hlen]; omega) (E.one x') hf
    simp only [Nat.add_zero] at hst
    have hadd : (⟨g0, off, none⟩ : Addr).add (i * E.size) = ⟨g0, off + i * E.size, none⟩ := by unfold Addr.add; split <;> simp_all
    have hp : ev f x = .pointer (some ⟨g0, off + i * E.size, none⟩) := by rw [hx]; unfold oad; rw [Option.map_some, hadd]
    have hcells : (Value.agg (E.cells x').toArray).cells = (E.cells x').toArray := rfl
    have hnl : (cur.toList.take (off + i * E.size) ++ E.cells x' ++ cur.toList.drop (off + i * E.size + (E.cells x').length)).length = cur.size := by
      simp only [List.length_append, List.length_take, List.length_drop, hlen, hcl]; omega
    have hfin := (s'.setRow (cs' := (cur.toList.take (off + i * E.size) ++ E.cells x' ++ cur.toList.drop (off + i * E.size + (E.cells x').length)).toArray)).rowMk (E := E) (xs := xs.set i x') (off := off) (cap := cap) (by simp only [List.size_toArray, hnl]; exact hf) (by simpa using h2) h3 (by simp only [List.size_toArray, hnl]; exact h4) (by
      simp only [List.length_set, List.toList_toArray]
      rw [← flat_set_all xs i x' hi, ← h5, hlen]
      have hdl : (cur.toList.drop off).length = cur.size - off := by simp
      rw [List.append_assoc, List.drop_append_of_le_length (by simp only [List.length_take, hcl]; omega), List.drop_take, show off + i * E.size + E.size = off + (i * E.size + E.size) by omega, ← List.drop_drop_add off]
      generalize cur.toList.drop off = D at hdl ⊢
      rw [show off + i * E.size - off = i * E.size by omega]
      rw [List.take_append, List.take_append, List.take_take, List.drop_take, List.take_take, List.length_take, hdl, hlen, List.append_assoc]
      congr 1
      · congr 1; omega
      · congr 1
        · rw [List.take_of_length_le (by rw [hlen]; omega)]
        · congr 1; omega)
    simp [execOp, r.eval, hp, hy, Instr.storeAt, Instr.sureAddr, storeVar, (isAgg_agg hT w).2, hcells, hlen, hst, gives]
    simpa [hlen] using hfin
end
end Go.SL

set_option linter.unusedVariables false
set_option linter.unusedSimpArgs false
set_option linter.unusedSectionVars false
namespace Go.SL
open Go.Maps (Keyed)
theorem rootC_ta (r : Root) : ((rootC r).drop 0).take 32 = rootC r := rootC_take' r
def encRoot : Enc Root := ⟨rootC, 32, rootC_len, rootC_one, by omega⟩
/-! ### Keys: two whole numbers; names -/
def EK2 (m : Int × Int) : Value := .agg #[.int .i64 m.1, .int .i64 m.2]
def EVR (r : Root) : Value := .agg (rootC r).toArray
def EVI (n : Int) : Value := .int .i64 n
theorem EK2_inj (a b : Int × Int) (h : EK2 a = EK2 b) : a = b := by
  unfold EK2 at h
  injection h with h
  simp at h
  exact Prod.ext h.1 h.2
theorem EVR_inj (a b : Root) (h : EVR a = EVR b) : a = b := by
  unfold EVR at h
  injection h with h
  exact rootC_inj (by simpa using congrArg Array.toList h)
def I64 (n : Int) : Prop := -9223372036854775808 ≤ n ∧ n ≤ 9223372036854775807
def mark2B (P : Program) (k : Nat) : Bool := match P.underlying k with
  | some (.struct fs) => (match fs.toList with
      | [f0, f1] => f0.name != "_" && f1.name != "_" && (f0.offset == 0) && (f1.offset == 1) && (match P.underlying f0.type with | some (.int .i64) => true | _ => false) && (match P.underlying f1.type with | some (.int .i64) => true | _ => false) && (P.cellsOf f0.type == 1) && (P.cellsOf f1.type == 1)
      | _ => false) && (P.cellsOf k == 2) && P.keyType k && Nat.ble 1 P.types.size
  | _ => false
theorem lits_i64 {P : Program} {t d : Nat} {n : Int} (hu : P.underlying t = some (.int .i64)) (hn : I64 n) : P.keyLits (d + 1) t [.int .i64 n] = some [.int .i64 n] := by
  unfold Program.keyLits
  rw [hu]
  simp only [Lit.wf, IntKind.min, IntKind.max, IntKind.signed, IntKind.bits]
  rw [if_pos]
  refine ⟨trivial, ?_⟩
  simp
  unfold I64 at hn
  omega
theorem key2_is {P : Program} {k : Nat} (hB : mark2B P k = true) (m : Int × Int) (h1 : I64 m.1) (h2 : I64 m.2) : ∃ L, keyOf P k (EK2 m) = some L := by
  unfold mark2B at hB
  split at hB
  · rename_i fs hu
    simp only [Bool.and_eq_true, beq_iff_eq] at hB
    obtain ⟨⟨⟨hf, hc⟩, hk⟩, hs⟩ := hB
    split at hf
    · rename_i f0 f1 hfs
      simp only [Bool.and_eq_true, beq_iff_eq, bne_iff_ne, ne_eq] at hf
      obtain ⟨⟨⟨⟨⟨⟨⟨n0, n1⟩, o0⟩, o1⟩, t0⟩, t1⟩, c0⟩, c1⟩ := hf
      have u0 : P.underlying f0.type = some (.int .i64) := by split at t0 <;> simp_all
      have u1 : P.underlying f1.type = some (.int .i64) := by split at t1 <;> simp_all
      have hs' := Nat.le_of_ble_eq_true hs
      obtain ⟨d, hd⟩ : ∃ d, P.types.size = d + 1 := ⟨P.types.size - 1, by omega⟩
      have hl : P.keyLits (P.types.size + 1) k [.int .i64 m.1, .int .i64 m.2] = some [.int .i64 m.1, .int .i64 m.2] := by
        unfold Program.keyLits
        rw [hu]
        have hall : fs.all (fun x => x.name != "_") = true := by
          rw [← Array.all_toList, hfs]
          simp [n0, n1]
        simp only [hc, List.length_cons, List.length_nil, hall, and_self, if_true, hfs, hd]
        rw [List.mapM_cons, List.mapM_cons, List.mapM_nil]
        simp only [o0, o1, c0, c1, List.drop_zero, List.take_succ_cons, List.take_zero, List.drop_succ_cons]
        rw [lits_i64 u0 h1, lits_i64 u1 h2]
        rfl
      refine ⟨.string (keyBytes [.int .i64 m.1, .int .i64 m.2]), ?_⟩
      · unfold keyOf
        rw [hu]
        have hfm : (EK2 m).formed P k = true := by
          unfold Value.formed EK2
          simp [hu, hc]
        simp only [hk, hfm, Bool.and_self, if_true]
        have hcells : (EK2 m).cells.toList = [.int .i64 m.1, .int .i64 m.2] := rfl
        rw [hcells, hl]
        rfl
    · cases hf
  · cases hB
def rootKeyB (P : Program) (k : Nat) : Bool := rootB P k && P.keyType k && Nat.ble 1 P.types.size
theorem keyR_is {P : Program} {k : Nat} (hB : rootKeyB P k = true) (r : Root) : ∃ L, keyOf P k (EVR r) = some L := by
  unfold rootKeyB at hB
  simp only [Bool.and_eq_true] at hB
  obtain ⟨⟨hr, hk⟩, hs⟩ := hB
  obtain ⟨e, q, hu, he, hc, hcT, hi, hg⟩ := rootB_spec hr
  have hs' := Nat.le_of_ble_eq_true hs
  obtain ⟨d, hd⟩ : ∃ d, P.types.size = d + 1 := ⟨P.types.size - 1, by omega⟩
  have hl : P.keyLits (P.types.size + 1) k (rootC r) = some ((List.range 32).map fun i => [Lit.int .u8 ((r.1.getD i 0).toNat : Int)]).flatten := by
    unfold Program.keyLits
    rw [hu]
    simp only [hcT, rootC_len, if_true, hd]
    rw [mapM_all _ (fun i => [Lit.int .u8 ((r.1.getD i 0).toNat : Int)]) (List.range 32) fun i hi' => ?_]
    · simp only [Option.map_some]
    · have hlt : i < 32 := by simpa using hi'
      rw [hc, Nat.mul_one, rootC_get r i hlt]
      generalize r.1.getD i 0 = u
      have hb := u.toNat_lt
      unfold Program.keyLits
      rw [he]
      simp only [Lit.wf, IntKind.min, IntKind.max, IntKind.signed, IntKind.bits]
      rw [if_pos]
      refine ⟨trivial, ?_⟩
      simp
      omega
  refine ⟨.string (keyBytes ((List.range 32).map fun i => [Lit.int .u8 ((r.1.getD i 0).toNat : Int)]).flatten), ?_⟩
  · unfold keyOf
    rw [hu]
    have hfm : (EVR r).formed P k = true := by
      unfold Value.formed EVR
      simp [hu, hcT, rootC_len]
    simp only [hk, hfm, Bool.and_self, if_true]
    have hcells : (EVR r).cells.toList = rootC r := rfl
    rw [hcells, hl]
    rfl
theorem keyok2 {P : Program} {k : Nat} {V : Type} {kvs : List ((Int × Int) × V)} (K : Keyed P k) (hB : mark2B P k = true) (m : Int × Int) (h1 : I64 m.1) (h2 : I64 m.2) (hr : ∀ p ∈ kvs, I64 p.1.1 ∧ I64 p.1.2) (hd : (kvs.map (·.1)).Nodup) : KeyOK P k EK2 kvs m :=
  ⟨K, fun a ha => by
    rcases ha with rfl | ha
    · exact key2_is hB a h1 h2
    · obtain ⟨p, hp, rfl⟩ := List.mem_map.1 ha
      exact key2_is hB p.1 (hr p hp).1 (hr p hp).2, EK2_inj, hd⟩
theorem keyokR {P : Program} {k : Nat} {V : Type} {kvs : List (Root × V)} (K : Keyed P k) (hB : rootKeyB P k = true) (m : Root) (hd : (kvs.map (·.1)).Nodup) : KeyOK P k EVR kvs m :=
  ⟨K, fun a ha => keyR_is hB a, EVR_inj, hd⟩
/-! ### Lookups -/
section
variable {K V : Type} [DecidableEq K] {EK : K → Value} {EV : V → Value} {P : Program} {w0 w : World} {n : Nat} {Q : Exit → Act → World → Prop} {f : Fr} {l l' : List HProp} {ops : Array Oper} {rest : List Oper} {c : Code} {e : Exit} {d : Option Tmp} {ty : TypeId} {pos : String} {aft : Array Edge} {g : Option (Nat × Bool)} {x y z : Operand} {T kt et b : Nat} {kvs : List (K × V)}
theorem op_lookup2S {v : V} (i : Nat) (k : K) {zv : Value} (hT : P.underlying T = some (.map kt et)) (hz : zeroB P et = some zv) (H : KeyOK P kt EK kvs k) (hk : look kvs k = some v) (hl : l[i]? = some (MapO EK EV b kvs)) (hx : ev f x = .map (some b)) (hy : ev f y = EK k) :
    OP P w0 n ⟨d, .lookup T x y true, ty, pos, aft, g⟩ f l (.tuple #[EV v, .bool true]) := by
  have h := op_lookup2 (d := d) (ty := ty) (pos := pos) (aft := aft) (g := g) (P := P) (w0 := w0) (n := n) i k hT hz H hl hx hy
  rw [hk] at h
  exact h
theorem op_lookup2N (i : Nat) (k : K) {zv : Value} (hT : P.underlying T = some (.map kt et)) (hz : zeroB P et = some zv) (H : KeyOK P kt EK kvs k) (hk : look kvs k = none) (hl : l[i]? = some (MapO EK EV b kvs)) (hx : ev f x = .map (some b)) (hy : ev f y = EK k) :
    OP P w0 n ⟨d, .lookup T x y true, ty, pos, aft, g⟩ f l (.tuple #[zv, .bool false]) := by
  have h := op_lookup2 (d := d) (ty := ty) (pos := pos) (aft := aft) (g := g) (P := P) (w0 := w0) (n := n) i k hT hz H hl hx hy
  rw [hk] at h
  exact h
theorem op_lookup1 (i : Nat) (k : K) {zv : Value} (hT : P.underlying T = some (.map kt et)) (hz : zeroB P et = some zv) (H : KeyOK P kt EK kvs k) (hl : l[i]? = some (MapO EK EV b kvs)) (hx : ev f x = .map (some b)) (hy : ev f y = EK k) :
    OP P w0 n ⟨d, .lookup T x y false, ty, pos, aft, g⟩ f l (match look kvs k with | some v => EV v | none => zv) := fun M A w r s => by
  obtain ⟨m, s1⟩ := s.front i hl
  obtain ⟨es, clock, he, hB, s2⟩ := s1.mapOpen
  have hb := s2.blk
  obtain ⟨L, hL⟩ := H.isKey k (.inl rfl)
  have hc := H.keyed.check w es.isEmpty hL
  obtain ⟨q, hq, hq2⟩ := Option.bind_eq_some_iff.1 hz
  rcases H.found w he with ⟨h1, h2, _⟩ | ⟨j, v, e, h1, _, h2, _⟩
  · simp [execOp, r.eval, hx, hy, Instr.lookup, run_underlying hT, run_getObj' hb, hc, h1, h2, zeroValue, typeInfo, hq, hq2]
  · simp [execOp, r.eval, hx, hy, Instr.lookup, run_underlying hT, run_getObj' hb, hc, h1, h2]
theorem op_lookup1S {v : V} (i : Nat) (k : K) {zv : Value} (hT : P.underlying T = some (.map kt et)) (hz : zeroB P et = some zv) (H : KeyOK P kt EK kvs k) (hk : look kvs k = some v) (hl : l[i]? = some (MapO EK EV b kvs)) (hx : ev f x = .map (some b)) (hy : ev f y = EK k) :
    OP P w0 n ⟨d, .lookup T x y false, ty, pos, aft, g⟩ f l (EV v) := by
  have h := op_lookup1 (d := d) (ty := ty) (pos := pos) (aft := aft) (g := g) (P := P) (w0 := w0) (n := n) i k hT hz H hl hx hy
  rw [hk] at h
  exact h
theorem op_lookup1N (i : Nat) (k : K) {zv : Value} (hT : P.underlying T = some (.map kt et)) (hz : zeroB P et = some zv) (H : KeyOK P kt EK kvs k) (hk : look kvs k = none) (hl : l[i]? = some (MapO EK EV b kvs)) (hx : ev f x = .map (some b)) (hy : ev f y = EK k) :
    OP P w0 n ⟨d, .lookup T x y false, ty, pos, aft, g⟩ f l zv := by
  have h := op_lookup1 (d := d) (ty := ty) (pos := pos) (aft := aft) (g := g) (P := P) (w0 := w0) (n := n) i k hT hz H hl hx hy
  rw [hk] at h
  exact h
theorem cd_mapopen (h : ∀ es clock, es.toList.map (fun e : MapEntry => (e.key, e.val)) = kvs.map (fun p => (EK p.1, EV p.2)) → Born es clock → CD P w0 n c Q f (Blk b (.map es clock) :: l)) : CD P w0 n c Q f (MapO EK EV b kvs :: l) := fun a w r s =>
  let ⟨es, clock, h1, h2, s'⟩ := s.mapOpen
  h es clock h1 h2 a w r s'
theorem ol_mapopen (h : ∀ es clock, es.toList.map (fun e : MapEntry => (e.key, e.val)) = kvs.map (fun p => (EK p.1, EV p.2)) → Born es clock → OL P w0 n ops Q rest f (Blk b (.map es clock) :: l)) : OL P w0 n ops Q rest f (MapO EK EV b kvs :: l) := fun a w r s =>
  let ⟨es, clock, h1, h2, s'⟩ := s.mapOpen
  h es clock h1 h2 a w r s'
end
/-! ### Pulls -/
section
variable {P : Program} {w0 : World} {n : Nat} {Q : Exit → Act → World → Prop} {f : Fr} {l : List HProp} {ops : Array Oper} {rest : List Oper} {o : Oper} {R : Value → List HProp → Prop} {c : Code} {e : Exit}
theorem px_pull4 {H0 H1 H2 H3 H4 : HProp} (h : PX w0 n e Q f (H4 :: H0 :: H1 :: H2 :: H3 :: l)) : PX w0 n e Q f (H0 :: H1 :: H2 :: H3 :: H4 :: l) := px_pull 4 h
theorem px_pull5 {H0 H1 H2 H3 H4 H5 : HProp} (h : PX w0 n e Q f (H5 :: H0 :: H1 :: H2 :: H3 :: H4 :: l)) : PX w0 n e Q f (H0 :: H1 :: H2 :: H3 :: H4 :: H5 :: l) := px_pull 5 h
theorem ol_pull6 {H0 H1 H2 H3 H4 H5 H6 : HProp} (h : OL P w0 n ops Q rest f (H6 :: H0 :: H1 :: H2 :: H3 :: H4 :: H5 :: l)) : OL P w0 n ops Q rest f (H0 :: H1 :: H2 :: H3 :: H4 :: H5 :: H6 :: l) := ol_pull 6 h
theorem cd_pull6 {H0 H1 H2 H3 H4 H5 H6 : HProp} (h : CD P w0 n c Q f (H6 :: H0 :: H1 :: H2 :: H3 :: H4 :: H5 :: l)) : CD P w0 n c Q f (H0 :: H1 :: H2 :: H3 :: H4 :: H5 :: H6 :: l) := cd_pull 6 h
theorem os_pull6 {H0 H1 H2 H3 H4 H5 H6 : HProp} (h : OS P w0 n o f (H6 :: H0 :: H1 :: H2 :: H3 :: H4 :: H5 :: l) R) : OS P w0 n o f (H0 :: H1 :: H2 :: H3 :: H4 :: H5 :: H6 :: l) R := os_map (fun _ s => s.pull 6) h
theorem px_pull6 {H0 H1 H2 H3 H4 H5 H6 : HProp} (h : PX w0 n e Q f (H6 :: H0 :: H1 :: H2 :: H3 :: H4 :: H5 :: l)) : PX w0 n e Q f (H0 :: H1 :: H2 :: H3 :: H4 :: H5 :: H6 :: l) := px_pull 6 h
theorem ol_pull7 {H0 H1 H2 H3 H4 H5 H6 H7 : HProp} (h : OL P w0 n ops Q rest f (H7 :: H0 :: H1 :: H2 :: H3 :: H4 :: H5 :: H6 :: l)) : OL P w0 n ops Q rest f (H0 :: H1 :: H2 :: H3 :: H4 :: H5 :: H6 :: H7 :: l) := ol_pull 7 h
theorem cd_pull7 {H0 H1 H2 H3 H4 H5 H6 H7 : HProp} (h : CD P w0 n c Q f (H7 :: H0 :: H1 :: H2 :: H3 :: H4 :: H5 :: H6 :: l)) : CD P w0 n c Q f (H0 :: H1 :: H2 :: H3 :: H4 :: H5 :: H6 :: H7 :: l) := cd_pull 7 h
theorem os_pull7 {H0 H1 H2 H3 H4 H5 H6 H7 : HProp} (h : OS P w0 n o f (H7 :: H0 :: H1 :: H2 :: H3 :: H4 :: H5 :: H6 :: l) R) : OS P w0 n o f (H0 :: H1 :: H2 :: H3 :: H4 :: H5 :: H6 :: H7 :: l) R := os_map (fun _ s => s.pull 7) h
theorem px_pull7 {H0 H1 H2 H3 H4 H5 H6 H7 : HProp} (h : PX w0 n e Q f (H7 :: H0 :: H1 :: H2 :: H3 :: H4 :: H5 :: H6 :: l)) : PX w0 n e Q f (H0 :: H1 :: H2 :: H3 :: H4 :: H5 :: H6 :: H7 :: l) := px_pull 7 h
theorem ol_pull8 {H0 H1 H2 H3 H4 H5 H6 H7 H8 : HProp} (h : OL P w0 n ops Q rest f (H8 :: H0 :: H1 :: H2 :: H3 :: H4 :: H5 :: H6 :: H7 :: l)) : OL P w0 n ops Q rest f (H0 :: H1 :: H2 :: H3 :: H4 :: H5 :: H6 :: H7 :: H8 :: l) := ol_pull 8 h
theorem cd_pull8 {H0 H1 H2 H3 H4 H5 H6 H7 H8 : HProp} (h : CD P w0 n c Q f (H8 :: H0 :: H1 :: H2 :: H3 :: H4 :: H5 :: H6 :: H7 :: l)) : CD P w0 n c Q f (H0 :: H1 :: H2 :: H3 :: H4 :: H5 :: H6 :: H7 :: H8 :: l) := cd_pull 8 h
theorem os_pull8 {H0 H1 H2 H3 H4 H5 H6 H7 H8 : HProp} (h : OS P w0 n o f (H8 :: H0 :: H1 :: H2 :: H3 :: H4 :: H5 :: H6 :: H7 :: l) R) : OS P w0 n o f (H0 :: H1 :: H2 :: H3 :: H4 :: H5 :: H6 :: H7 :: H8 :: l) R := os_map (fun _ s => s.pull 8) h
theorem px_pull8 {H0 H1 H2 H3 H4 H5 H6 H7 H8 : HProp} (h : PX w0 n e Q f (H8 :: H0 :: H1 :: H2 :: H3 :: H4 :: H5 :: H6 :: H7 :: l)) : PX w0 n e Q f (H0 :: H1 :: H2 :: H3 :: H4 :: H5 :: H6 :: H7 :: H8 :: l) := px_pull 8 h
theorem ol_pull9 {H0 H1 H2 H3 H4 H5 H6 H7 H8 H9 : HProp} (h : OL P w0 n ops Q rest f (H9 :: H0 :: H1 :: H2 :: H3 :: H4 :: H5 :: H6 :: H7 :: H8 :: l)) : OL P w0 n ops Q rest f (H0 :: H1 :: H2 :: H3 :: H4 :: H5 :: H6 :: H7 :: H8 :: H9 :: l) := ol_pull 9 h
theorem cd_pull9 {H0 H1 H2 H3 H4 H5 H6 H7 H8 H9 : HProp} (h : CD P w0 n c Q f (H9 :: H0 :: H1 :: H2 :: H3 :: H4 :: H5 :: H6 :: H7 :: H8 :: l)) : CD P w0 n c Q f (H0 :: H1 :: H2 :: H3 :: H4 :: H5 :: H6 :: H7 :: H8 :: H9 :: l) := cd_pull 9 h
theorem os_pull9 {H0 H1 H2 H3 H4 H5 H6 H7 H8 H9 : HProp} (h : OS P w0 n o f (H9 :: H0 :: H1 :: H2 :: H3 :: H4 :: H5 :: H6 :: H7 :: H8 :: l) R) : OS P w0 n o f (H0 :: H1 :: H2 :: H3 :: H4 :: H5 :: H6 :: H7 :: H8 :: H9 :: l) R := os_map (fun _ s => s.pull 9) h
theorem px_pull9 {H0 H1 H2 H3 H4 H5 H6 H7 H8 H9 : HProp} (h : PX w0 n e Q f (H9 :: H0 :: H1 :: H2 :: H3 :: H4 :: H5 :: H6 :: H7 :: H8 :: l)) : PX w0 n e Q f (H0 :: H1 :: H2 :: H3 :: H4 :: H5 :: H6 :: H7 :: H8 :: H9 :: l) := px_pull 9 h
theorem ol_pull10 {H0 H1 H2 H3 H4 H5 H6 H7 H8 H9 H10 : HProp} (h : OL P w0 n ops Q rest f (H10 :: H0 :: H1 :: H2 :: H3 :: H4 :: H5 :: H6 :: H7 :: H8 :: H9 :: l)) : OL P w0 n ops Q rest f (H0 :: H1 :: H2 :: H3 :: H4 :: H5 :: H6 :: H7 :: H8 :: H9 :: H10 :: l) := ol_pull 10 h
theorem cd_pull10 {H0 H1 H2 H3 H4 H5 H6 H7 H8 H9 H10 : HProp} (h : CD P w0 n c Q f (H10 :: H0 :: H1 :: H2 :: H3 :: H4 :: H5 :: H6 :: H7 :: H8 :: H9 :: l)) : CD P w0 n c Q f (H0 :: H1 :: H2 :: H3 :: H4 :: H5 :: H6 :: H7 :: H8 :: H9 :: H10 :: l) := cd_pull 10 h
theorem os_pull10 {H0 H1 H2 H3 H4 H5 H6 H7 H8 H9 H10 : HProp} (h : OS P w0 n o f (H10 :: H0 :: H1 :: H2 :: H3 :: H4 :: H5 :: H6 :: H7 :: H8 :: H9 :: l) R) : OS P w0 n o f (H0 :: H1 :: H2 :: H3 :: H4 :: H5 :: H6 :: H7 :: H8 :: H9 :: H10 :: l) R := os_map (fun _ s => s.pull 10) h
theorem px_pull10 {H0 H1 H2 H3 H4 H5 H6 H7 H8 H9 H10 : HProp} (h : PX w0 n e Q f (H10 :: H0 :: H1 :: H2 :: H3 :: H4 :: H5 :: H6 :: H7 :: H8 :: H9 :: l)) : PX w0 n e Q f (H0 :: H1 :: H2 :: H3 :: H4 :: H5 :: H6 :: H7 :: H8 :: H9 :: H10 :: l) := px_pull 10 h
theorem ol_pull11 {H0 H1 H2 H3 H4 H5 H6 H7 H8 H9 H10 H11 : HProp} (h : OL P w0 n ops Q rest f (H11 :: H0 :: H1 :: H2 :: H3 :: H4 :: H5 :: H6 :: H7 :: H8 :: H9 :: H10 :: l)) : OL P w0 n ops Q rest f (H0 :: H1 :: H2 :: H3 :: H4 :: H5 :: H6 :: H7 :: H8 :: H9 :: H10 :: H11 :: l) := ol_pull 11 h
theorem cd_pull11 {H0 H1 H2 H3 H4 H5 H6 H7 H8 H9 H10 H11 : HProp} (h : CD P w0 n c Q f (H11 :: H0 :: H1 :: H2 :: H3 :: H4 :: H5 :: H6 :: H7 :: H8 :: H9 :: H10 :: l)) : CD P w0 n c Q f (H0 :: H1 :: H2 :: H3 :: H4 :: H5 :: H6 :: H7 :: H8 :: H9 :: H10 :: H11 :: l) := cd_pull 11 h
theorem os_pull11 {H0 H1 H2 H3 H4 H5 H6 H7 H8 H9 H10 H11 : HProp} (h : OS P w0 n o f (H11 :: H0 :: H1 :: H2 :: H3 :: H4 :: H5 :: H6 :: H7 :: H8 :: H9 :: H10 :: l) R) : OS P w0 n o f (H0 :: H1 :: H2 :: H3 :: H4 :: H5 :: H6 :: H7 :: H8 :: H9 :: H10 :: H11 :: l) R := os_map (fun _ s => s.pull 11) h
theorem px_pull11 {H0 H1 H2 H3 H4 H5 H6 H7 H8 H9 H10 H11 : HProp} (h : PX w0 n e Q f (H11 :: H0 :: H1 :: H2 :: H3 :: H4 :: H5 :: H6 :: H7 :: H8 :: H9 :: H10 :: l)) : PX w0 n e Q f (H0 :: H1 :: H2 :: H3 :: H4 :: H5 :: H6 :: H7 :: H8 :: H9 :: H10 :: H11 :: l) := px_pull 11 h
theorem ol_pull12 {H0 H1 H2 H3 H4 H5 H6 H7 H8 H9 H10 H11 H12 : HProp} (h : OL P w0 n ops Q rest f (H12 :: H0 :: H1 :: H2 :: H3 :: H4 :: H5 :: H6 :: H7 :: H8 :: H9 :: H10 :: H11 :: l)) : OL P w0 n ops Q rest f (H0 :: H1 :: H2 :: H3 :: H4 :: H5 :: H6 :: H7 :: H8 :: H9 :: H10 :: H11 :: H12 :: l) := ol_pull 12 h
theorem cd_pull12 {H0 H1 H2 H3 H4 H5 H6 H7 H8 H9 H10 H11 H12 : HProp} (h : CD P w0 n c Q f (H12 :: H0 :: H1 :: H2 :: H3 :: H4 :: H5 :: H6 :: H7 :: H8 :: H9 :: H10 :: H11 :: l)) : CD P w0 n c Q f (H0 :: H1 :: H2 :: H3 :: H4 :: H5 :: H6 :: H7 :: H8 :: H9 :: H10 :: H11 :: H12 :: l) := cd_pull 12 h
theorem os_pull12 {H0 H1 H2 H3 H4 H5 H6 H7 H8 H9 H10 H11 H12 : HProp} (h : OS P w0 n o f (H12 :: H0 :: H1 :: H2 :: H3 :: H4 :: H5 :: H6 :: H7 :: H8 :: H9 :: H10 :: H11 :: l) R) : OS P w0 n o f (H0 :: H1 :: H2 :: H3 :: H4 :: H5 :: H6 :: H7 :: H8 :: H9 :: H10 :: H11 :: H12 :: l) R := os_map (fun _ s => s.pull 12) h
theorem px_pull12 {H0 H1 H2 H3 H4 H5 H6 H7 H8 H9 H10 H11 H12 : HProp} (h : PX w0 n e Q f (H12 :: H0 :: H1 :: H2 :: H3 :: H4 :: H5 :: H6 :: H7 :: H8 :: H9 :: H10 :: H11 :: l)) : PX w0 n e Q f (H0 :: H1 :: H2 :: H3 :: H4 :: H5 :: H6 :: H7 :: H8 :: H9 :: H10 :: H11 :: H12 :: l) := px_pull 12 h
theorem ol_pull13 {H0 H1 H2 H3 H4 H5 H6 H7 H8 H9 H10 H11 H12 H13 : HProp} (h : OL P w0 n ops Q rest f (H13 :: H0 :: H1 :: H2 :: H3 :: H4 :: H5 :: H6 :: H7 :: H8 :: H9 :: H10 :: H11 :: H12 :: l)) : OL P w0 n ops Q rest f (H0 :: H1 :: H2 :: H3 :: H4 :: H5 :: H6 :: H7 :: H8 :: H9 :: H10 :: H11 :: H12 :: H13 :: l) := ol_pull 13 h
theorem cd_pull13 {H0 H1 H2 H3 H4 H5 H6 H7 H8 H9 H10 H11 H12 H13 : HProp} (h : CD P w0 n c Q f (H13 :: H0 :: H1 :: H2 :: H3 :: H4 :: H5 :: H6 :: H7 :: H8 :: H9 :: H10 :: H11 :: H12 :: l)) : CD P w0 n c Q f (H0 :: H1 :: H2 :: H3 :: H4 :: H5 :: H6 :: H7 :: H8 :: H9 :: H10 :: H11 :: H12 :: H13 :: l) := cd_pull 13 h
theorem os_pull13 {H0 H1 H2 H3 H4 H5 H6 H7 H8 H9 H10 H11 H12 H13 : HProp} (h : OS P w0 n o f (H13 :: H0 :: H1 :: H2 :: H3 :: H4 :: H5 :: H6 :: H7 :: H8 :: H9 :: H10 :: H11 :: H12 :: l) R) : OS P w0 n o f (H0 :: H1 :: H2 :: H3 :: H4 :: H5 :: H6 :: H7 :: H8 :: H9 :: H10 :: H11 :: H12 :: H13 :: l) R := os_map (fun _ s => s.pull 13) h
theorem px_pull13 {H0 H1 H2 H3 H4 H5 H6 H7 H8 H9 H10 H11 H12 H13 : HProp} (h : PX w0 n e Q f (H13 :: H0 :: H1 :: H2 :: H3 :: H4 :: H5 :: H6 :: H7 :: H8 :: H9 :: H10 :: H11 :: H12 :: l)) : PX w0 n e Q f (H0 :: H1 :: H2 :: H3 :: H4 :: H5 :: H6 :: H7 :: H8 :: H9 :: H10 :: H11 :: H12 :: H13 :: l) := px_pull 13 h
theorem ol_pull14 {H0 H1 H2 H3 H4 H5 H6 H7 H8 H9 H10 H11 H12 H13 H14 : HProp} (h : OL P w0 n ops Q rest f (H14 :: H0 :: H1 :: H2 :: H3 :: H4 :: H5 :: H6 :: H7 :: H8 :: H9 :: H10 :: H11 :: H12 :: H13 :: l)) : OL P w0 n ops Q rest f (H0 :: H1 :: H2 :: H3 :: H4 :: H5 :: H6 :: H7 :: H8 :: H9 :: H10 :: H11 :: H12 :: H13 :: H14 :: l) := ol_pull 14 h
theorem cd_pull14 {H0 H1 H2 H3 H4 H5 H6 H7 H8 H9 H10 H11 H12 H13 H14 : HProp} (h : CD P w0 n c Q f (H14 :: H0 :: H1 :: H2 :: H3 :: H4 :: H5 :: H6 :: H7 :: H8 :: H9 :: H10 :: H11 :: H12 :: H13 :: l)) : CD P w0 n c Q f (H0 :: H1 :: H2 :: H3 :: H4 :: H5 :: H6 :: H7 :: H8 :: H9 :: H10 :: H11 :: H12 :: H13 :: H14 :: l) := cd_pull 14 h
theorem os_pull14 {H0 H1 H2 H3 H4 H5 H6 H7 H8 H9 H10 H11 H12 H13 H14 : HProp} (h : OS P w0 n o f (H14 :: H0 :: H1 :: H2 :: H3 :: H4 :: H5 :: H6 :: H7 :: H8 :: H9 :: H10 :: H11 :: H12 :: H13 :: l) R) : OS P w0 n o f (H0 :: H1 :: H2 :: H3 :: H4 :: H5 :: H6 :: H7 :: H8 :: H9 :: H10 :: H11 :: H12 :: H13 :: H14 :: l) R := os_map (fun _ s => s.pull 14) h
theorem px_pull14 {H0 H1 H2 H3 H4 H5 H6 H7 H8 H9 H10 H11 H12 H13 H14 : HProp} (h : PX w0 n e Q f (H14 :: H0 :: H1 :: H2 :: H3 :: H4 :: H5 :: H6 :: H7 :: H8 :: H9 :: H10 :: H11 :: H12 :: H13 :: l)) : PX w0 n e Q f (H0 :: H1 :: H2 :: H3 :: H4 :: H5 :: H6 :: H7 :: H8 :: H9 :: H10 :: H11 :: H12 :: H13 :: H14 :: l) := px_pull 14 h
theorem rg_nil4 {H0 H1 H2 H3 : HProp} {imps : List Nat} {k : Nat} (h : PX w0 n .normal Q f (H0 :: H1 :: H2 :: H3 :: l)) : RG P w0 n ops imps (KN w0 Q l) l [] k f [H0, H1, H2, H3] := fun a ra w s => h a w ra s
theorem rg_tail4 {H0 H1 H2 H3 : HProp} {imps : List Nat} {k : Nat} {tl : List Oper} (h : OL P w0 n ops Q tl f (H0 :: H1 :: H2 :: H3 :: l)) : RG P w0 n ops imps (KT P w0 ops Q tl l) l [] k f [H0, H1, H2, H3] := fun a ra w s => h a w ra s
theorem rg_nil5 {H0 H1 H2 H3 H4 : HProp} {imps : List Nat} {k : Nat} (h : PX w0 n .normal Q f (H0 :: H1 :: H2 :: H3 :: H4 :: l)) : RG P w0 n ops imps (KN w0 Q l) l [] k f [H0, H1, H2, H3, H4] := fun a ra w s => h a w ra s
theorem rg_nil_then5 {H0 H1 H2 H3 H4 : HProp} {imps : List Nat} {k : Nat} {y : Code} (h : CD P w0 n y Q f (H0 :: H1 :: H2 :: H3 :: H4 :: l)) : RG P w0 n ops imps (KN w0 (Exit.then (y.wp P Q) Q) l) l [] k f [H0, H1, H2, H3, H4] := fun a ra w s => h a w ra s
theorem rg_tail5 {H0 H1 H2 H3 H4 : HProp} {imps : List Nat} {k : Nat} {tl : List Oper} (h : OL P w0 n ops Q tl f (H0 :: H1 :: H2 :: H3 :: H4 :: l)) : RG P w0 n ops imps (KT P w0 ops Q tl l) l [] k f [H0, H1, H2, H3, H4] := fun a ra w s => h a w ra s
theorem rg_nil6 {H0 H1 H2 H3 H4 H5 : HProp} {imps : List Nat} {k : Nat} (h : PX w0 n .normal Q f (H0 :: H1 :: H2 :: H3 :: H4 :: H5 :: l)) : RG P w0 n ops imps (KN w0 Q l) l [] k f [H0, H1, H2, H3, H4, H5] := fun a ra w s => h a w ra s
theorem rg_nil_then6 {H0 H1 H2 H3 H4 H5 : HProp} {imps : List Nat} {k : Nat} {y : Code} (h : CD P w0 n y Q f (H0 :: H1 :: H2 :: H3 :: H4 :: H5 :: l)) : RG P w0 n ops imps (KN w0 (Exit.then (y.wp P Q) Q) l) l [] k f [H0, H1, H2, H3, H4, H5] := fun a ra w s => h a w ra s
theorem rg_tail6 {H0 H1 H2 H3 H4 H5 : HProp} {imps : List Nat} {k : Nat} {tl : List Oper} (h : OL P w0 n ops Q tl f (H0 :: H1 :: H2 :: H3 :: H4 :: H5 :: l)) : RG P w0 n ops imps (KT P w0 ops Q tl l) l [] k f [H0, H1, H2, H3, H4, H5] := fun a ra w s => h a w ra s
theorem rg_nil7 {H0 H1 H2 H3 H4 H5 H6 : HProp} {imps : List Nat} {k : Nat} (h : PX w0 n .normal Q f (H0 :: H1 :: H2 :: H3 :: H4 :: H5 :: H6 :: l)) : RG P w0 n ops imps (KN w0 Q l) l [] k f [H0, H1, H2, H3, H4, H5, H6] := fun a ra w s => h a w ra s
theorem rg_nil_then7 {H0 H1 H2 H3 H4 H5 H6 : HProp} {imps : List Nat} {k : Nat} {y : Code} (h : CD P w0 n y Q f (H0 :: H1 :: H2 :: H3 :: H4 :: H5 :: H6 :: l)) : RG P w0 n ops imps (KN w0 (Exit.then (y.wp P Q) Q) l) l [] k f [H0, H1, H2, H3, H4, H5, H6] := fun a ra w s => h a w ra s
theorem rg_tail7 {H0 H1 H2 H3 H4 H5 H6 : HProp} {imps : List Nat} {k : Nat} {tl : List Oper} (h : OL P w0 n ops Q tl f (H0 :: H1 :: H2 :: H3 :: H4 :: H5 :: H6 :: l)) : RG P w0 n ops imps (KT P w0 ops Q tl l) l [] k f [H0, H1, H2, H3, H4, H5, H6] := fun a ra w s => h a w ra s
theorem rg_nil8 {H0 H1 H2 H3 H4 H5 H6 H7 : HProp} {imps : List Nat} {k : Nat} (h : PX w0 n .normal Q f (H0 :: H1 :: H2 :: H3 :: H4 :: H5 :: H6 :: H7 :: l)) : RG P w0 n ops imps (KN w0 Q l) l [] k f [H0, H1, H2, H3, H4, H5, H6, H7] := fun a ra w s => h a w ra s
theorem rg_nil_then8 {H0 H1 H2 H3 H4 H5 H6 H7 : HProp} {imps : List Nat} {k : Nat} {y : Code} (h : CD P w0 n y Q f (H0 :: H1 :: H2 :: H3 :: H4 :: H5 :: H6 :: H7 :: l)) : RG P w0 n ops imps (KN w0 (Exit.then (y.wp P Q) Q) l) l [] k f [H0, H1, H2, H3, H4, H5, H6, H7] := fun a ra w s => h a w ra s
theorem rg_tail8 {H0 H1 H2 H3 H4 H5 H6 H7 : HProp} {imps : List Nat} {k : Nat} {tl : List Oper} (h : OL P w0 n ops Q tl f (H0 :: H1 :: H2 :: H3 :: H4 :: H5 :: H6 :: H7 :: l)) : RG P w0 n ops imps (KT P w0 ops Q tl l) l [] k f [H0, H1, H2, H3, H4, H5, H6, H7] := fun a ra w s => h a w ra s
theorem rg_nil9 {H0 H1 H2 H3 H4 H5 H6 H7 H8 : HProp} {imps : List Nat} {k : Nat} (h : PX w0 n .normal Q f (H0 :: H1 :: H2 :: H3 :: H4 :: H5 :: H6 :: H7 :: H8 :: l)) : RG P w0 n ops imps (KN w0 Q l) l [] k f [H0, H1, H2, H3, H4, H5, H6, H7, H8] := fun a ra w s => h a w ra s
theorem rg_nil_then9 {H0 H1 H2 H3 H4 H5 H6 H7 H8 : HProp} {imps : List Nat} {k : Nat} {y : Code} (h : CD P w0 n y Q f (H0 :: H1 :: H2 :: H3 :: H4 :: H5 :: H6 :: H7 :: H8 :: l)) : RG P w0 n ops imps (KN w0 (Exit.then (y.wp P Q) Q) l) l [] k f [H0, H1, H2, H3, H4, H5, H6, H7, H8] := fun a ra w s => h a w ra s
theorem rg_tail9 {H0 H1 H2 H3 H4 H5 H6 H7 H8 : HProp} {imps : List Nat} {k : Nat} {tl : List Oper} (h : OL P w0 n ops Q tl f (H0 :: H1 :: H2 :: H3 :: H4 :: H5 :: H6 :: H7 :: H8 :: l)) : RG P w0 n ops imps (KT P w0 ops Q tl l) l [] k f [H0, H1, H2, H3, H4, H5, H6, H7, H8] := fun a ra w s => h a w ra s
theorem rg_nil10 {H0 H1 H2 H3 H4 H5 H6 H7 H8 H9 : HProp} {imps : List Nat} {k : Nat} (h : PX w0 n .normal Q f (H0 :: H1 :: H2 :: H3 :: H4 :: H5 :: H6 :: H7 :: H8 :: H9 :: l)) : RG P w0 n ops imps (KN w0 Q l) l [] k f [H0, H1, H2, H3, H4, H5, H6, H7, H8, H9] := fun a ra w s => h a w ra s
theorem rg_nil_then10 {H0 H1 H2 H3 H4 H5 H6 H7 H8 H9 : HProp} {imps : List Nat} {k : Nat} {y : Code} (h : CD P w0 n y Q f (H0 :: H1 :: H2 :: H3 :: H4 :: H5 :: H6 :: H7 :: H8 :: H9 :: l)) : RG P w0 n ops imps (KN w0 (Exit.then (y.wp P Q) Q) l) l [] k f [H0, H1, H2, H3, H4, H5, H6, H7, H8, H9] := fun a ra w s => h a w ra s
theorem rg_tail10 {H0 H1 H2 H3 H4 H5 H6 H7 H8 H9 : HProp} {imps : List Nat} {k : Nat} {tl : List Oper} (h : OL P w0 n ops Q tl f (H0 :: H1 :: H2 :: H3 :: H4 :: H5 :: H6 :: H7 :: H8 :: H9 :: l)) : RG P w0 n ops imps (KT P w0 ops Q tl l) l [] k f [H0, H1, H2, H3, H4, H5, H6, H7, H8, H9] := fun a ra w s => h a w ra s
theorem rg_nil11 {H0 H1 H2 H3 H4 H5 H6 H7 H8 H9 H10 : HProp} {imps : List Nat} {k : Nat} (h : PX w0 n .normal Q f (H0 :: H1 :: H2 :: H3 :: H4 :: H5 :: H6 :: H7 :: H8 :: H9 :: H10 :: l)) : RG P w0 n ops imps (KN w0 Q l) l [] k f [H0, H1, H2, H3, H4, H5, H6, H7, H8, H9, H10] := fun a ra w s => h a w ra s
theorem rg_nil_then11 {H0 H1 H2 H3 H4 H5 H6 H7 H8 H9 H10 : HProp} {imps : List Nat} {k : Nat} {y : Code} (h : CD P w0 n y Q f (H0 :: H1 :: H2 :: H3 :: H4 :: H5 :: H6 :: H7 :: H8 :: H9 :: H10 :: l)) : RG P w0 n ops imps (KN w0 (Exit.then (y.wp P Q) Q) l) l [] k f [H0, H1, H2, H3, H4, H5, H6, H7, H8, H9, H10] := fun a ra w s => h a w ra s
theorem rg_tail11 {H0 H1 H2 H3 H4 H5 H6 H7 H8 H9 H10 : HProp} {imps : List Nat} {k : Nat} {tl : List Oper} (h : OL P w0 n ops Q tl f (H0 :: H1 :: H2 :: H3 :: H4 :: H5 :: H6 :: H7 :: H8 :: H9 :: H10 :: l)) : RG P w0 n ops imps (KT P w0 ops Q tl l) l [] k f [H0, H1, H2, H3, H4, H5, H6, H7, H8, H9, H10] := fun a ra w s => h a w ra s
theorem rg_nil12 {H0 H1 H2 H3 H4 H5 H6 H7 H8 H9 H10 H11 : HProp} {imps : List Nat} {k : Nat} (h : PX w0 n .normal Q f (H0 :: H1 :: H2 :: H3 :: H4 :: H5 :: H6 :: H7 :: H8 :: H9 :: H10 :: H11 :: l)) : RG P w0 n ops imps (KN w0 Q l) l [] k f [H0, H1, H2, H3, H4, H5, H6, H7, H8, H9, H10, H11] := fun a ra w s => h a w ra s
theorem rg_nil_then12 {H0 H1 H2 H3 H4 H5 H6 H7 H8 H9 H10 H11 : HProp} {imps : List Nat} {k : Nat} {y : Code} (h : CD P w0 n y Q f (H0 :: H1 :: H2 :: H3 :: H4 :: H5 :: H6 :: H7 :: H8 :: H9 :: H10 :: H11 :: l)) : RG P w0 n ops imps (KN w0 (Exit.then (y.wp P Q) Q) l) l [] k f [H0, H1, H2, H3, H4, H5, H6, H7, H8, H9, H10, H11] := fun a ra w s => h a w ra s
theorem rg_tail12 {H0 H1 H2 H3 H4 H5 H6 H7 H8 H9 H10 H11 : HProp} {imps : List Nat} {k : Nat} {tl : List Oper} (h : OL P w0 n ops Q tl f (H0 :: H1 :: H2 :: H3 :: H4 :: H5 :: H6 :: H7 :: H8 :: H9 :: H10 :: H11 :: l)) : RG P w0 n ops imps (KT P w0 ops Q tl l) l [] k f [H0, H1, H2, H3, H4, H5, H6, H7, H8, H9, H10, H11] := fun a ra w s => h a w ra s
end
/-! ### Rows of pointers, each to a block of its own, or nil -/
section
variable {β : Type} (F : Nat → β → HProp)
def PtrAt : Option Addr → Option β → HProp
  | none, none => emp
  | some a, some v => fun h => ∃ q, a = ⟨q, 0, none⟩ ∧ F q v h
  | _, _ => fun _ => False
def PtrsO : List (Option Addr) → List (Option β) → HProp
  | [], [] => emp
  | a :: ps, v :: vs => sep (PtrAt F a v) (PtrsO ps vs)
  | _, _ => fun _ => False
variable {F}
theorem ptrs_len {ps : List (Option Addr)} {vs : List (Option β)} {h : Hp} (p : PtrsO F ps vs h) : ps.length = vs.length := by
  induction ps generalizing vs h with
  | nil => cases vs with
    | nil => rfl
    | cons v vs => exact p.elim
  | cons a ps ih => cases vs with
    | nil => exact p.elim
    | cons v vs =>
      obtain ⟨x, y, d, e, _, q⟩ := p
      rw [List.length_cons, List.length_cons, ih q]
theorem ptrs_split {ps : List (Option Addr)} {vs : List (Option β)} {i : Nat} {a : Option Addr} {v : Option β} (ha : ps[i]? = some a) (hv : vs[i]? = some v) : PtrsO F ps vs = sep (PtrAt F a v) (PtrsO F (ps.eraseIdx i) (vs.eraseIdx i)) := by
  induction ps generalizing vs i with
  | nil => simp at ha
  | cons a' ps ih => cases vs with
    | nil => simp at hv
    | cons v' vs => cases i with
      | zero => simp at ha hv; subst ha hv; rfl
      | succ i =>
        have := ih (vs := vs) (i := i) (by simpa using ha) (by simpa using hv)
        simp only [PtrsO, List.eraseIdx_cons_succ, this]
        rw [sep_left_comm]
theorem ptrs_set {ps : List (Option Addr)} {vs : List (Option β)} {i : Nat} {a : Option Addr} {v : Option β} (ha : i < ps.length) (hv : i < vs.length) : PtrsO F (ps.set i a) (vs.set i v) = sep (PtrAt F a v) (PtrsO F (ps.eraseIdx i) (vs.eraseIdx i)) := by
  have := ptrs_split (F := F) (ps := ps.set i a) (vs := vs.set i v) (i := i) (a := a) (v := v) (by simp [ha]) (by simp [hv])
  rw [this, List.eraseIdx_set_eq, List.eraseIdx_set_eq]
theorem ptrs_none (n : Nat) : PtrsO F (List.replicate n none) (List.replicate n none) = emp := by
  induction n with
  | zero => rfl
  | succ n ih => simp only [List.replicate_succ, PtrsO, ih, PtrAt, emp_sep]
variable {w0 w : World} {l : List HProp}
theorem Sat.head_sep {A B : HProp} : Sat w0 w (sep A B :: l) ↔ Sat w0 w (A :: B :: l) := by
  constructor <;> intro s <;> refine s.map fun h x => ?_
  · simp only [stars] at x ⊢; rwa [sep_assoc] at x
  · simp only [stars] at x ⊢; rwa [sep_assoc]
theorem Sat.ptrs_len {ps : List (Option Addr)} {vs : List (Option β)} (s : Sat w0 w (PtrsO F ps vs :: l)) : ps.length = vs.length := by
  obtain ⟨h, a, x, y, d, rfl, p, q⟩ := s.own
  exact Go.SL.ptrs_len p
theorem Sat.ptrs_at {ps : List (Option Addr)} {vs : List (Option β)} (s : Sat w0 w (PtrsO F ps vs :: l)) (i : Nat) {v : Option β} (hv : vs[i]? = some v) :
    (v = none ∧ ps[i]? = some none) ∨ ∃ q u, v = some u ∧ ps[i]? = some (some ⟨q, 0, none⟩) ∧ Sat w0 w (F q u :: PtrsO F (ps.eraseIdx i) (vs.eraseIdx i) :: l) := by
  have hl := s.ptrs_len
  have hi : i < ps.length := by rw [hl]; exact (List.getElem?_eq_some_iff.1 hv).1
  have ha : ps[i]? = some ps[i] := List.getElem?_eq_getElem hi
  generalize ps[i] = a at ha
  rw [ptrs_split ha hv] at s
  have s' := Sat.head_sep.1 s
  obtain ⟨h, a1, x, y, d, rfl, p, q⟩ := s'.own
  cases a with
  | none => cases v with
    | none => exact .inl ⟨rfl, ha⟩
    | some u => exact p.elim
  | some b => cases v with
    | none => exact p.elim
    | some u =>
      obtain ⟨b', rfl, hp⟩ := p
      exact .inr ⟨b', u, rfl, ha, s'.os, s'.tape, s'.output, s'.size, _, a1, x, y, d, rfl, hp, q⟩
theorem Sat.ptrs_back {ps : List (Option Addr)} {vs : List (Option β)} {i q : Nat} {u : β} (s : Sat w0 w (F q u :: PtrsO F (ps.eraseIdx i) (vs.eraseIdx i) :: l)) (hv : vs[i]? = some (some u)) (ha : ps[i]? = some (some ⟨q, 0, none⟩)) : Sat w0 w (PtrsO F ps vs :: l) := by
  rw [ptrs_split ha hv]
  exact Sat.head_sep.2 (s.head fun h x => ⟨q, rfl, x⟩)
theorem Sat.ptrs_put {ps : List (Option Addr)} {vs : List (Option β)} {i q : Nat} {u : β} (s : Sat w0 w (F q u :: PtrsO F (ps.eraseIdx i) (vs.eraseIdx i) :: l)) (hv : i < vs.length) (ha : i < ps.length) : Sat w0 w (PtrsO F (ps.set i (some ⟨q, 0, none⟩)) (vs.set i (some u)) :: l) := by
  rw [ptrs_set ha hv]
  exact Sat.head_sep.2 (s.head fun h x => ⟨q, rfl, x⟩)
theorem Sat.ptrs_del {ps : List (Option Addr)} {vs : List (Option β)} (i : Nat) (s : Sat w0 w (PtrsO F ps vs :: l)) (hv : i < vs.length) : Sat w0 w (PtrsO F (ps.eraseIdx i) (vs.eraseIdx i) :: l) := by
  have hl := s.ptrs_len
  rw [ptrs_split (List.getElem?_eq_getElem (show i < ps.length by omega)) (List.getElem?_eq_getElem hv)] at s
  exact (Sat.head_sep.1 s).drop
theorem cd_ptrs {P : Program} {n : Nat} {Q : Exit → Act → World → Prop} {f : Fr} {c : Code} {ps : List (Option Addr)} {vs : List (Option β)} (i : Nat) (hi : i < vs.length)
    (h0 : vs[i]? = some none → ps[i]? = some none → CD P w0 n c Q f (PtrsO F ps vs :: l))
    (h1 : ∀ q u, vs[i]? = some (some u) → ps[i]? = some (some ⟨q, 0, none⟩) → CD P w0 n c Q f (F q u :: PtrsO F (ps.eraseIdx i) (vs.eraseIdx i) :: l)) : CD P w0 n c Q f (PtrsO F ps vs :: l) := fun a w r s => by
  have hv : vs[i]? = some vs[i] := List.getElem?_eq_getElem hi
  generalize vs[i] = v at hv
  rcases s.ptrs_at i hv with ⟨rfl, h2⟩ | ⟨q, u, rfl, h2, s'⟩
  · exact h0 hv h2 a w r s
  · exact h1 q u hv h2 a w r s'
end
end Go.SL

set_option linter.unusedVariables false
set_option linter.unusedSimpArgs false
namespace Go.SL
/-! ### Loops that keep all slots but those they write -/
def memb : List (Nat × Nat) → Nat → Bool
  | [], _ => false
  | (a, b) :: r, t => bif Nat.ble a t then (bif Nat.ble t b then true else memb r t) else memb r t
def over (M : List (Nat × Nat)) (f0 f : Fr) : Fr := fun t => bif memb M t then f t else f0 t
def Kept (M : List (Nat × Nat)) (f0 f : Fr) : Prop := ∀ t, memb M t = false → f t = f0 t
theorem kept_over {M : List (Nat × Nat)} {f0 f : Fr} : Kept M f0 (over M f0 f) := fun t h => by unfold over; rw [h]; rfl
theorem kept_upd {M : List (Nat × Nat)} {f0 f : Fr} {d : Nat} {v : Value} (hd : memb M d = true) (h : Kept M f0 f) : Kept M f0 (upd f d v) := fun t ht => by
  have : t ≠ d := fun e => by subst e; rw [hd] at ht; cases ht
  unfold upd
  rw [beq_ne this]
  exact h t ht
def subB (M' M : List (Nat × Nat)) : Bool := M'.all fun p => (List.range (p.2 + 1)).all fun k => !(Nat.ble p.1 k) || memb M k
theorem memb_iff {M : List (Nat × Nat)} {t : Nat} : memb M t = true ↔ ∃ p ∈ M, p.1 ≤ t ∧ t ≤ p.2 := by
  induction M with
  | nil => simp [memb]
  | cons p r ih =>
    obtain ⟨a, b⟩ := p
    unfold memb
    cases h1 : Nat.ble a t <;> cases h2 : Nat.ble t b <;> simp only [cond_true, cond_false, ih, List.mem_cons, exists_eq_or_imp, Nat.ble_eq] at h1 h2 ⊢
    · have : ¬ a ≤ t := fun h => by rw [Nat.ble_eq_true_of_le h] at h1; cases h1
      simp [this]
    · have : ¬ a ≤ t := fun h => by rw [Nat.ble_eq_true_of_le h] at h1; cases h1
      simp [this]
    · have : ¬ t ≤ b := fun h => by rw [Nat.ble_eq_true_of_le h] at h2; cases h2
      simp [this]
    · simp [h1, h2]
theorem kept_overS {M M' : List (Nat × Nat)} {f0 f1 f : Fr} (hs : subB M' M = true) (h : Kept M f0 f1) : Kept M f0 (over M' f1 f) := fun t ht => by
  have : memb M' t = false := by
    cases e : memb M' t with
    | false => rfl
    | true =>
      obtain ⟨p, hp, h1, h2⟩ := memb_iff.1 e
      have h3 := List.all_eq_true.1 (List.all_eq_true.1 hs p hp) t (by simp; omega)
      rw [ht, Nat.ble_eq_true_of_le h1] at h3
      cases h3
  unfold over
  rw [this]
  exact h t ht
theorem Kept.over_eq {M : List (Nat × Nat)} {f0 f : Fr} (h : Kept M f0 f) : over M f0 f = f := by
  funext t
  unfold over
  cases e : memb M t with
  | true => rfl
  | false => exact (h t e).symm
theorem kept_self {M : List (Nat × Nat)} {f0 : Fr} : Kept M f0 f0 := fun _ _ => rfl
section
variable {P : Program} {w0 : World} {n : Nat} {Q : Exit → Act → World → Prop} {f f0 : Fr} {l l' : List HProp} {ops : Array Oper}
def LN2 (w0 : World) (n : Nat) (M : List (Nat × Nat)) (f0 : Fr) {α : Type} (S : α → List (Nat × Value)) (L : α → List HProp) (φ : α → Prop) (m : α → Nat) (k : Nat) : Act → World → Prop :=
  fun a w => ∃ y f, φ y ∧ m y < k ∧ Agree f (S y) ∧ Kept M f0 f ∧ Rep n a f ∧ Sat w0 w (L y)
theorem cd_loop2 {α : Type} {body : Code} (M : List (Nat × Nat)) (S : α → List (Nat × Value)) (L : α → List HProp) (φ : α → Prop) (m : α → Nat) (x : α) (h0 : φ x) (hf : Agree f (S x)) (hl : ∀ w, Sat w0 w l → Sat w0 w (L x))
    (round : ∀ x, φ x → ∀ f', CD P w0 n body (Exit.then (LN2 w0 n M f S L φ m (m x)) Q) (upds (over M f f') (S x)) (L x)) : CD P w0 n (.loop body) Q f l := by
  intro a w r s
  let G : Act → World → Nat → Prop := fun a w k => ∃ y f', φ y ∧ m y = k ∧ Agree f' (S y) ∧ Kept M f f' ∧ Rep n a f' ∧ Sat w0 w (L y)
  refine wp_loop (fun a w => ∃ k, G a w k) (fun a w => Classical.epsilon fun k => G a w k ∧ ∀ j, G a w j → k ≤ j) ⟨m x, x, f, h0, rfl, hf, kept_self, r, hl w s⟩ ?_
  intro a w hI
  have hG := Classical.epsilon_spec (p := fun k => G a w k ∧ ∀ j, G a w j → k ≤ j) (least hI)
  generalize (Classical.epsilon fun k => G a w k ∧ ∀ j, G a w j → k ≤ j) = k at hG ⊢
  obtain ⟨⟨y, f', hy, hm, hA, hK, hr, hs⟩, _⟩ := hG
  have hr' : Rep n a (upds (over M f f') (S y)) := by rw [hK.over_eq, upds_agree hA]; exact hr
  have := round y hy f' a w hr' hs
  refine wp_mono this fun e a' w' hq => ?_
  cases e with
  | normal =>
    obtain ⟨z, f'', hz, hlt, hA', hK', hr'', hs'⟩ := hq
    have hex : ∃ k, G a' w' k := ⟨m z, z, f'', hz, rfl, hA', hK', hr'', hs'⟩
    refine ⟨hex, ?_⟩
    have h1 := (Classical.epsilon_spec (p := fun k => G a' w' k ∧ ∀ j, G a' w' j → k ≤ j) (least hex)).2 (m z) ⟨z, f'', hz, rfl, hA', hK', hr'', hs'⟩
    omega
  | _ => exact hq
theorem px_loop2 {α : Type} {M : List (Nat × Nat)} {S : α → List (Nat × Value)} {L : α → List HProp} {φ : α → Prop} {m : α → Nat} {k : Nat} (y : α) (h1 : φ y) (h2 : m y < k) (h3 : Agree f (S y)) (hk : Kept M f0 f) (h4 : ∀ w, Sat w0 w l → Sat w0 w (L y)) :
    PX w0 n .normal (Exit.then (LN2 w0 n M f0 S L φ m k) Q) f l := fun _ w r s => ⟨y, f, h1, h2, h3, hk, r, h4 w s⟩
end
/-! ### Elements: the index is read off the pointer -/
section
variable {α : Type} {E : Enc α} {P : Program} {w0 w : World} {n : Nat} {f : Fr} {l l' : List HProp} {d : Option Tmp} {ty : TypeId} {pos : String} {aft : Array Edge} {g : Option (Nat × Bool)} {x y z : Operand} {T T' : TypeId} {u v : Value} {ao : Option Addr} {xs : List α} {i : Nat}
theorem op_ldw (hT : scalarB P T = true) (hr : Rds w0 l E ao xs) (hx : ev f x = .pointer (oad ao (i * E.size))) (hi : i < xs.length) (hv : (E.cells xs[i])[0]? = some v) : OP P w0 n ⟨d, .load T x, ty, pos, aft, g⟩ f l v :=
  op_lde i 0 hT hx hr hi (Nat.ble_eq_true_of_le E.pos) rfl hv
theorem op_ldf (j : Nat) (hT : scalarB P T = true) (hr : Rds w0 l E ao xs) (hx : ev f x = .pointer (oad ao (i * E.size + j))) (hi : i < xs.length) (hj : Nat.ble (j + 1) E.size = true) (hv : (E.cells xs[i])[j]? = some v) : OP P w0 n ⟨d, .load T x, ty, pos, aft, g⟩ f l v :=
  op_lde i j hT hx hr hi hj rfl hv
theorem op_ldaw {k : Nat} {L : List Value} (hT : aggB P T = some k) (hr : Rds w0 l E ao xs) (hx : ev f x = .pointer (oad ao (i * E.size))) (hi : i < xs.length) (hj : Nat.ble k E.size = true) (hv : ((E.cells xs[i]).drop 0).take k = L) : OP P w0 n ⟨d, .load T x, ty, pos, aft, g⟩ f l (.agg L.toArray) :=
  op_ldea i 0 hT hx hr hi (by rw [Nat.zero_add]; exact hj) rfl hv
theorem op_ldaf {k : Nat} {L : List Value} (j : Nat) (hT : aggB P T = some k) (hr : Rds w0 l E ao xs) (hx : ev f x = .pointer (oad ao (i * E.size + j))) (hi : i < xs.length) (hj : Nat.ble (j + k) E.size = true) (hv : ((E.cells xs[i]).drop j).take k = L) : OP P w0 n ⟨d, .load T x, ty, pos, aft, g⟩ f l (.agg L.toArray) :=
  op_ldea i j hT hx hr hi hj rfl hv
theorem os_stsw {e m c : Nat} {x' : α} (hT : scalarB P T = true) (hx : ev f x = .pointer (oad ao (i * E.size))) (hy : ev f y = v) (h1 : v.oneCell' = true) (hi : i < xs.length) (hv : u = .slice ao m c) (hx' : E.cells x' = (E.cells xs[i]).set 0 v) :
    OS P w0 n ⟨d, .store T x y, ty, pos, aft, g⟩ f (Row e E u xs :: l) (fun z l' => z = undef ∧ l' = Row e E u (xs.set i x') :: l) :=
  os_ste i 0 hT hx hy h1 hi (Nat.ble_eq_true_of_le E.pos) rfl hv hx'
theorem os_stsf {e m c : Nat} {x' : α} (j : Nat) (hT : scalarB P T = true) (hx : ev f x = .pointer (oad ao (i * E.size + j))) (hy : ev f y = v) (h1 : v.oneCell' = true) (hi : i < xs.length) (hj : Nat.ble (j + 1) E.size = true) (hv : u = .slice ao m c) (hx' : E.cells x' = (E.cells xs[i]).set j v) :
    OS P w0 n ⟨d, .store T x y, ty, pos, aft, g⟩ f (Row e E u xs :: l) (fun z l' => z = undef ∧ l' = Row e E u (xs.set i x') :: l) :=
  os_ste i j hT hx hy h1 hi hj rfl hv hx'
theorem os_staw {e m c k : Nat} {L : List Value} {x' : α} (hT : aggB P T = some k) (hx : ev f x = .pointer (oad ao (i * E.size))) (hy : ev f y = .agg L.toArray) (hk : E.size = k) (hL : E.cells x' = L) (hi : i < xs.length) (hv : u = .slice ao m c) :
    OS P w0 n ⟨d, .store T x y, ty, pos, aft, g⟩ f (Row e E u xs :: l) (fun z l' => z = undef ∧ l' = Row e E u (xs.set i x') :: l) :=
  os_stew i hT hx hy hk hL hi rfl hv
end
/-- fewer than N numbers below N -/
theorem nodup_le : ∀ (N : Nat) (l : List Nat), l.Nodup → (∀ x ∈ l, x < N) → l.length ≤ N
  | 0, l, _, h => by
    cases l with
    | nil => exact Nat.le_refl _
    | cons a l => exact absurd (h a (by simp)) (by omega)
  | N + 1, l, hd, h => by
    have h1 := nodup_le N (l.filter fun x => decide (x ≠ N)) (hd.filter _) fun x hx => by
      obtain ⟨hx1, hx2⟩ := List.mem_filter.1 hx
      have := h x hx1
      simp at hx2
      omega
    have h2 : l.length ≤ (l.filter fun x => decide (x ≠ N)).length + 1 := by
      clear h1 h
      induction l with
      | nil => simp
      | cons a l ih =>
        rw [List.nodup_cons] at hd
        by_cases ha : a = N
        · subst ha
          have : (l.filter fun x => decide (x ≠ a)) = l := List.filter_eq_self.2 fun x hx => by
            simp only [decide_eq_true_eq, ne_eq]
            intro he
            exact hd.1 (he ▸ hx)
          rw [List.filter_cons_of_neg (by simp), this]
          simp
        · rw [List.filter_cons_of_pos (by simpa using ha)]
          have := ih hd.2
          simp only [List.length_cons]
          omega
    omega
end Go.SL

set_option linter.unusedVariables false
set_option linter.unusedSimpArgs false
namespace Go.SL
open Go.WideShapes
section
variable {H : Type} {enc : TypeId × Value → H} {P : Program} {W : World} {t e : TypeId} {r : Reach} {b0 : Nat} {v : Value} {d : DataW H} {ps : List MemPlace}
theorem opens_root (hB : rootB P t = true) : Opens enc P W t (fun cs => ∃ r : Root, cs = rootC r ∧ True) := fun fuel cs x h => by
  obtain ⟨e, q, hu, he, hc, hcT, hi, hg⟩ := rootB_spec hB
  obtain ⟨xs, n, hn, hx, hl, hlen, hf⟩ := DataW.trod_array hu h
  rw [hcT] at hl
  have hcell : ∀ i, i < 32 → ∃ b : UInt8, cs[i]? = some (.int .u8 (b.toNat : Int)) := fun i hi => by
    have hi' : i < xs.length := by rw [hlen]; exact hi
    have h1 := hf i hi
    rw [hc, Nat.mul_one, List.getElem?_eq_getElem hi'] at h1
    obtain ⟨m, h2, _, hw⟩ := DataW.trod_int he h1
    obtain ⟨b, rfl⟩ := wf_u8 hw
    refine ⟨b, ?_⟩
    have h3 : ((cs.drop i).take 1)[0]? = some (.int .u8 (b.toNat : Int)) := by rw [h2]; rfl
    rwa [List.getElem?_take_of_lt (by omega), List.getElem?_drop] at h3
  let f : Fin 32 → UInt8 := fun i => Classical.choose (hcell i.1 i.2)
  have hf' : ∀ i : Fin 32, cs[i.1]? = some (.int .u8 ((f i).toNat : Int)) := fun i => Classical.choose_spec (hcell i.1 i.2)
  refine ⟨⟨List.ofFn f, by simp⟩, ?_, trivial⟩
  unfold rootC
  apply List.ext_getElem?
  intro i
  by_cases hi : i < 32
  · rw [hf' ⟨i, hi⟩]
    rw [List.getElem?_map, List.getElem?_ofFn]
    simp [hi]
  · rw [List.getElem?_eq_none (by omega), List.getElem?_eq_none (by simp; omega)]
theorem seg (cs : List Value) (k s : Nat) : cs.drop k = (cs.drop k).take s ++ cs.drop (k + s) := by
  rw [← List.drop_drop, List.take_append_drop]
theorem open_root (hB : rootB P t = true) (hval : Value.okWide P W r b0 t v) (hd : DataW.Trod enc P W 0 (fun _ => true) true t v d ps) : ∃ r : Root, v = .agg (rootC r).toArray := by
  obtain ⟨e, q, hu, he, hc, hcT, hi, hg⟩ := rootB_spec hB
  have hv : ∃ cs, v = .agg cs := by
    unfold Value.okWide at hval
    rw [hu] at hval
    obtain ⟨cs, h, _⟩ := hval
    exact ⟨cs, h⟩
  obtain ⟨cs, rfl⟩ := hv
  obtain ⟨r, hr, _⟩ := open_cells (opens_root hB) hd
  refine ⟨r, ?_⟩
  have : cs.toList = rootC r := hr
  rw [← this]
end
end Go.SL

set_option linter.unusedVariables false
set_option linter.unusedSimpArgs false
namespace Go.SL
theorem ins_none {K V : Type} [DecidableEq K] {kvs : List (K × V)} {k : K} {v : V} (h : look kvs k = none) : ins kvs k v = kvs ++ [(k, v)] := by unfold ins; rw [h]; rfl
/-- the name of a small number -/
def nameR (n : Int) : Root := (Root.zero.set 0 (byteI n)).set 31 (byteI (IntKind.i64.wrap (7 * n)))
theorem Sat.rowMax {α : Type} {E : Enc α} {w0 w : World} {l : List HProp} {e : TypeId} {v : Value} {xs : List α} (s : Sat w0 w (Row e E v xs :: l)) : xs.length ≤ maxLen := by
  rcases s.rowOpen with ⟨rfl, rfl, _⟩ | ⟨g, off, cap, cur, fr, rfl, h2, h3, _⟩
  · exact Nat.zero_le _
  · exact Nat.le_trans h2 h3
/-- a whole number as an unsigned one -/
def u64N (n : Int) : Nat := (n % 18446744073709551616).toNat
theorem u64N_lt (n : Int) : u64N n < 18446744073709551616 := by unfold u64N; omega
theorem u64N_nat {n : Int} (h : 0 ≤ n) (h2 : n < 18446744073709551616) : u64N n = n.toNat := by unfold u64N; omega
section
variable {P : Program} {w0 w : World} {n : Nat} {f : Fr} {l l' : List HProp} {d : Option Tmp} {ty : TypeId} {pos : String} {aft : Array Edge} {g : Option (Nat × Bool)} {x y z : Operand} {T T' : TypeId} {u v : Value}
theorem op_conv64i {k : IntKind} {A : Int} (hu : P.underlying T' = some (.int .u64)) (hT : (P.underlying T).isSome = true) (hx : ev f x = .int k A) : OP P w0 n ⟨d, .convert T T' x, ty, pos, aft, g⟩ f l (.int .u64 ((u64N A : Nat) : Int)) := by
  have := op_convi (P := P) (w0 := w0) (n := n) (l := l) (d := d) (ty := ty) (pos := pos) (aft := aft) (g := g) hu hT hx
  have e : IntKind.u64.wrap A = ((u64N A : Nat) : Int) := by
    have h : IntKind.u64.wrap A = A % 18446744073709551616 := by simp [IntKind.wrap, IntKind.signed, IntKind.bits]
    rw [h]
    unfold u64N
    omega
  rw [e] at this
  exact this
/-! ### Maps that are made with entries; functions as values -/
theorem os_insert {K V : Type} [DecidableEq K] {EK : K → Value} {EV : V → Value} {kt et b : Nat} {kvs : List (K × V)} (k : K) (q : V) (hT : P.underlying T = some (.map kt et)) (H : KeyOK P kt EK kvs k) (hx : ev f x = .map (some b)) (hy : ev f y = EK k) (hz : ev f z = EV q) :
    OS P w0 n ⟨d, .insert T x y z, ty, pos, aft, g⟩ f (MapO EK EV b kvs :: l) (fun u l' => u = undef ∧ l' = MapO EK EV b (ins kvs k q) :: l) := fun a w r s =>
  (os_mapUpdate (d := d) (ty := ty) (pos := pos) (aft := aft) (g := g) (n := n) k q hT H hx hy hz) a w r s
theorem os_makeMapO {K V : Type} (EK : K → Value) (EV : V → Value) : OS P w0 n ⟨d, .makeMap T none, ty, pos, aft, g⟩ f l (fun v l' => ∃ b, v = .map (some b) ∧ l' = MapO EK EV b [] :: l) := fun a w r s => by
  have h := os_makeMap (P := P) (w0 := w0) (n := n) (T := T) (d := d) (ty := ty) (pos := pos) (aft := aft) (g := g) (f := f) (l := l) a w r s
  refine h.mono ?_
  rintro v w' ⟨l', ⟨b, rfl, rfl⟩, s'⟩
  exact ⟨_, ⟨b, rfl, rfl⟩, s'.mapNew EK EV⟩
theorem op_makefunc {fn : Fn} {first cap : Array Operand} {F C : List Value} (hF : first.toList.map (ev f) = F) (hC : cap.toList.map (ev f) = C) : OP P w0 n ⟨d, .makeFunc fn first cap, ty, pos, aft, g⟩ f l (.func fn F.toArray C.toArray) := fun M a w r s => by
  have h1 : first.map a.eval = F.toArray := by
    rw [← hF]; apply Array.toList_inj.1; rw [Array.toList_map]; simp only [List.toList_toArray]; congr 1; funext x; exact r.eval x
  have h2 : cap.map a.eval = C.toArray := by
    rw [← hC]; apply Array.toList_inj.1; rw [Array.toList_map]; simp only [List.toList_toArray]; congr 1; funext x; exact r.eval x
  simp [execOp, Instr.makeFunc, h1, h2]
theorem os_callv {k : Nat} {args : Array Operand} {as_ : Array TypeId} {vs C : List Value} {R : Value → List HProp → Prop} (hB : callB P k = true) (hf : ev f y = .func (.func k) #[] C.toArray) (hv : args.toList.map (ev f) = vs)
    (hc : ∀ w, Sat w0 w l → Calls P k (vs ++ C).toArray w (Ret w0 R)) : OS P w0 n ⟨d, .call ⟨.value y, args, as_⟩, ty, pos, aft, g⟩ f l R := fun a w r s => by
  have he : args.map a.eval = vs.toArray := by
    rw [← hv]; apply Array.toList_inj.1; rw [Array.toList_map]; simp only [List.toList_toArray]; congr 1; funext x; exact r.eval x
  have hfv : a.eval y = .func (.func k) #[] C.toArray := (r.eval y).trans hf
  unfold callB at hB
  cases hk : P.funcs[k]? with
  | none => simp [hk] at hB
  | some fn =>
    simp only [hk, Bool.and_eq_true, Bool.not_eq_true', Option.isSome_iff_exists] at hB
    obtain ⟨h1, c, h2⟩ := hB
    have h1' : ¬ fn.name = "runtime.NumGoroutine" := by simpa using h1
    have hvc : vs.toArray ++ C.toArray = (vs ++ C).toArray := by simp
    simp [execOp, resolve, Deferred.ofValue, invoke, callFunc, he, hfv, hk, h1', h2, gives]
    refine (hc w s).mono fun e w' hq => ?_
    obtain ⟨v, l', rfl, hR, s'⟩ := hq
    exact ⟨v, rfl, l', hR, s'⟩
/-- a name that is left at noughts -/
theorem op_buildr {parts : Array (Nat × Operand)} (hp : parts = #[]) (hB : rootB P T = true) (hz : zeroB P T = some (.agg (rootC Root.zero).toArray)) : OP P w0 n ⟨d, .build T parts, ty, pos, aft, g⟩ f l (.agg (rootC Root.zero).toArray) := fun M a w r s => by
  subst hp
  obtain ⟨e, q, hu, he, hc, hcT, hi, hg⟩ := rootB_spec hB
  obtain ⟨i, hi1, hi2⟩ := Option.bind_eq_some_iff.1 hz
  have hzr : (zeroValue T).run P w = .ok (.agg (rootC Root.zero).toArray) w := by simp [zeroValue, typeInfo, hi1, hi2]
  have hcells : (Value.agg (rootC Root.zero).toArray).cells = (rootC Root.zero).toArray := rfl
  simp only [execOp, Instr.build, Sem.run_bind, hzr, Result.andThen_ok, run_underlying hu, hcells]
  simp [sizeOf, typeInfo, hi, Instr.fill]
end
end Go.SL
