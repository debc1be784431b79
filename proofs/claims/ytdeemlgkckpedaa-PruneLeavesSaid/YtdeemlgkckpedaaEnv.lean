import Derived.Test.YtdeemlgkckpedaaEnh
import Derived.RangeFuncNested
import Derived.RangeFuncLeaves
import Derived.RangeFuncCalls
import Derived.LoopNIn
import Derived.OwnWalkIn
set_option linter.unusedVariables false
set_option linter.unusedSimpArgs false
namespace Go.SL
/-! ### Walks in a round of a range over a function: the same rules, inside a fence -/
def FF : Option Nat → Fence
  | none => Fence.wide
  | some l => Fence.wide.inRound l
theorem FF_fn (ro : Option Nat) (f : FuncId) : (FF ro).fn f := by cases ro <;> trivial
theorem FF_depth (ro : Option Nat) : (FF ro).depth = none := by cases ro <;> rfl
theorem FF_calls {ro : Option Nat} {m : Nat} {P : Program} {k : FuncId} {args : Array Value} {w : World} {R : Ending → World → Prop} (h : Calls P k args w R) : CallsIn (FF ro) m P k args w R := by
  cases ro with
  | none => exact callsIn_wide.2 h
  | some l => exact CallsIn.inRound l (callsIn_wide.2 h)
section
variable (P : Program) (ro : Option Nat) (m : Nat) (w0 : World) (n : Nat)
def OLI (ops : Array Oper) (Q : Exit → Act → World → Prop) (rest : List Oper) (f : Fr) (l : List HProp) : Prop := ∀ a w, Rep n a f → Sat w0 w l → wpListIn (FF ro) m P ops Q rest a w
def CDI (c : Code) (Q : Exit → Act → World → Prop) (f : Fr) (l : List HProp) : Prop := ∀ a w, Rep n a f → Sat w0 w l → c.wpIn (FF ro) m P Q a w
end
section
variable {P : Program} {ro : Option Nat} {m : Nat} {w0 : World} {n : Nat} {Q : Exit → Act → World → Prop} {f : Fr} {l l' : List HProp} {ops : Array Oper} {rest : List Oper} {o : Oper}
theorem gives.wpIn {K : Value → World → Prop} {a : Act} {w : World} (hnd : ∀ c, o.op ≠ .defer c) (h : gives P K ((execOp a.eval o).run P w)) {K' : Act → World → Prop} (Q : Exit → Act → World → Prop) (hk : ∀ v w', K v w' → K' (a.put o.dst v) w') : o.wpIn (FF ro) m P a w K' Q := by
  refine ⟨fun f _ => FF_fn ro f, ?_⟩
  rw [Oper.semAt_eq _ _ _ hnd]
  generalize (execOp a.eval o).run P w = r at h
  cases r with
  | ok nx w1 =>
    cases nx <;> simp only [gives] at h
    case value v => exact hk _ _ h
    case skip => exact hk _ _ h
    case enter k args =>
      refine ⟨fun hd => (by rw [FF_depth] at hd; cases hd), ?_⟩
      exact (FF_calls h).mono fun e w ⟨v, he, hv⟩ => by subst he; exact hk _ _ hv
  | halt x w1 => exact h.elim
theorem oli_q0 {v : Value} (hw : Wn n ops o f true) (h : OP P w0 n o f l v) (hd : dok n o.dst = true) (k : OLI P ro m w0 n ops Q rest (updo f o.dst v) l) (hnd : ∀ c, o.op ≠ .defer c := by intro c h; cases h) : OLI P ro m w0 n ops Q (o :: rest) f l := fun a w r s => by
  unfold wpListIn
  rw [if_pos (hw a r)]
  exact gives.wpIn (K := fun u w' => u = v ∧ w' = w) hnd (by rw [h [] a w r s]; exact ⟨rfl, rfl⟩) Q fun u w' ⟨h1, h2⟩ => by subst h1 h2; exact k _ _ (r.puto hd u) s
theorem oli_i0 {R : Value → List HProp → Prop} (hw : Wn n ops o f true) (h : OS P w0 n o f l R) (hd : dok n o.dst = true) (k : ∀ v l', R v l' → OLI P ro m w0 n ops Q rest (updo f o.dst v) l') (hnd : ∀ c, o.op ≠ .defer c := by intro c h; cases h) : OLI P ro m w0 n ops Q (o :: rest) f l := fun a w r s => by
  unfold wpListIn
  rw [if_pos (hw a r)]
  exact gives.wpIn hnd (h a w r s) Q fun v w' ⟨l', hR, s'⟩ => k v l' hR _ _ (r.puto hd v) s'
section
variable {d : Nat} {op : Op} {ty : TypeId} {pos : String} {aft : Array Edge} {g : Option (Nat × Bool)}
theorem oli_q {v : Value} (hw : Wn n ops ⟨some d, op, ty, pos, aft, g⟩ f true) (h : OP P w0 n ⟨some d, op, ty, pos, aft, g⟩ f l v) (hd : Nat.ble (d + 1) n = true) (k : OLI P ro m w0 n ops Q rest (upd f d v) l) (hnd : ∀ c, op ≠ .defer c := by intro c h; cases h) : OLI P ro m w0 n ops Q (⟨some d, op, ty, pos, aft, g⟩ :: rest) f l := oli_q0 hw h hd k hnd
theorem oli_i {R : Value → List HProp → Prop} (hw : Wn n ops ⟨some d, op, ty, pos, aft, g⟩ f true) (h : OS P w0 n ⟨some d, op, ty, pos, aft, g⟩ f l R) (hd : Nat.ble (d + 1) n = true) (k : ∀ v l', R v l' → OLI P ro m w0 n ops Q rest (upd f d v) l') (hnd : ∀ c, op ≠ .defer c := by intro c h; cases h) : OLI P ro m w0 n ops Q (⟨some d, op, ty, pos, aft, g⟩ :: rest) f l := oli_i0 hw h hd k hnd
theorem oli_iN {R : Value → List HProp → Prop} (hw : Wn n ops ⟨none, op, ty, pos, aft, g⟩ f true) (h : OS P w0 n ⟨none, op, ty, pos, aft, g⟩ f l R) (k : ∀ v l', R v l' → OLI P ro m w0 n ops Q rest f l') (hnd : ∀ c, op ≠ .defer c := by intro c h; cases h) : OLI P ro m w0 n ops Q (⟨none, op, ty, pos, aft, g⟩ :: rest) f l := oli_i0 hw h rfl k hnd
end
theorem oli_nil (h : PX w0 n .normal Q f l) : OLI P ro m w0 n ops Q [] f l := h
theorem oli_nil_then {y : Code} (h : CDI P ro m w0 n y Q f l) : OLI P ro m w0 n ops (Exit.then (y.wpIn (FF ro) m P Q) Q) [] f l := h
theorem oli_pull (i : Nat) (h : OLI P ro m w0 n ops Q rest f (l.getD i emp :: l.eraseIdx i)) : OLI P ro m w0 n ops Q rest f l := fun a w r s => h a w r (s.pull i)
theorem cdi_seq {x y : Code} (h : CDI P ro m w0 n x (Exit.then (y.wpIn (FF ro) m P Q) Q) f l) : CDI P ro m w0 n (.seq x y) Q f l := fun a w r s => wpIn_seq (h a w r s)
theorem cdi_region {id : Nat} {lo : List Oper} (h : OLI P ro m w0 n lo.toArray Q lo f l) : CDI P ro m w0 n (.region id lo.toArray false) Q f l := fun a w r s => wpIn_region_list (by simpa using h a w r s)
theorem cdi_sr {id : Nat} {lo : List Oper} {y : Code} (h : OLI P ro m w0 n lo.toArray (Exit.then (y.wpIn (FF ro) m P Q) Q) lo f l) : CDI P ro m w0 n (.seq (.region id lo.toArray false) y) Q f l := cdi_seq (cdi_region h)
theorem cdi_skip (h : PX w0 n .normal Q f l) : CDI P ro m w0 n .skip Q f l := fun a w r s => wpIn_skip (h a w r s)
theorem cdi_ret (h : PX w0 n .ret Q f l) : CDI P ro m w0 n .ret Q f l := fun a w r s => wpIn_ret (h a w r s)
theorem cdi_exit {id : Nat} (h : PX w0 n (.exit id) Q f l) : CDI P ro m w0 n (.exit id) Q f l := fun a w r s => wpIn_exit (h a w r s)
theorem cdi_block {id : Nat} {c : Code} (h : CDI P ro m w0 n c (Exit.inBlock id Q) f l) : CDI P ro m w0 n (.block id c) Q f l := fun a w r s => wpIn_block (h a w r s)
theorem cdi_cond {c : Operand} {x y : Code} {b : Bool} (hc : ev f c = .bool b) (ht : b = true → CDI P ro m w0 n x Q f l) (hf : b = false → CDI P ro m w0 n y Q f l) : CDI P ro m w0 n (.cond c x y) Q f l := fun a w r s => by
  refine wpIn_cond ((r.eval c).trans hc) ?_
  cases b with
  | true => exact ht rfl a w r s
  | false => exact hf rfl a w r s
theorem pxi_then {y : Code} (h : CDI P ro m w0 n y Q f l) : PX w0 n .normal (Exit.then (y.wpIn (FF ro) m P Q) Q) f l := h
/-- a fenced call, by a walk -/
theorem callsI_enter {k : FuncId} {fn : Func} {c : Code} {args : Array Value} {w : World} {R : Ending → World → Prop} (hf : P.funcs[k]? = some fn) (hb : fn.body = some c) (hn : fn.ntmps = n) (hs : Nat.ble args.size n = true) (s : Sat w0 w l)
    (h : CDI P none m w0 n c (bodyPost P fn R) (fun t => args.getD t undef) l) : CallsIn Fence.wide m P k args w R := by
  have hs' : args.size ≤ n := Nat.le_of_ble_eq_true hs
  refine callsIn_of_wp hf hb trivial (h _ _ ⟨by simp [hn]; omega, fun t => ?_, rfl⟩ s) rfl
  simp only [Array.getD_eq_getD_getElem?]
  rcases Nat.lt_or_ge t args.size with h1 | h1
  · rw [Array.getElem?_append_left h1]
  · rw [Array.getElem?_append_right h1, Array.getElem?_eq_none h1]
    rcases Nat.lt_or_ge (t - args.size) (fn.ntmps - args.size) with h2 | h2
    · simp [h2]
    · simp [Nat.not_lt.2 h2]
theorem callsI_enterM {k : FuncId} {fn : Func} {c : Code} {args : Array Value} {w : World} {R : Ending → World → Prop} (hf : P.funcs[k]? = some fn) (hb : fn.body = some c) (hn : fn.ntmps = n) (hs : Nat.ble args.size n = true) (s : Sat w0 w l)
    (h : CDI P none m w0 n c (bodyPostM Fence.wide m P fn R) (fun t => args.getD t undef) l) : CallsIn Fence.wide m P k args w R := by
  have hs' : args.size ≤ n := Nat.le_of_ble_eq_true hs
  refine callsIn_of_wp_marks hf hb trivial (h _ _ ⟨by simp [hn]; omega, fun t => ?_, rfl⟩ s) rfl
  simp only [Array.getD_eq_getD_getElem?]
  rcases Nat.lt_or_ge t args.size with h1 | h1
  · rw [Array.getElem?_append_left h1]
  · rw [Array.getElem?_append_right h1, Array.getElem?_eq_none h1]
    rcases Nat.lt_or_ge (t - args.size) (fn.ntmps - args.size) with h2 | h2
    · simp [h2]
    · simp [Nat.not_lt.2 h2]
/-- yield is called -/
theorem oli_yield {d : Nat} {ty : TypeId} {pos : String} {aft : Array Edge} {lp : Nat} {y : Operand} {args : Array Operand} {as_ : Array TypeId} {vs : List Value} {R : Ending → World → Prop} (hd : Nat.ble (d + 1) n = true)
    (hy : ev f y = .func (.yield lp) #[] #[]) (hv : args.toList.map (ev f) = vs) (hY : ∀ w, Sat w0 w l → YieldAt Fence.wide (m - 1) P lp vs.toArray w R)
    (hk : ∀ e w', R e w' → ∃ v, e = .returned v ∧ ∀ a, Rep n a (upd f d v) → wpListIn Fence.wide m P ops Q rest a w') :
    OLI P none m w0 n ops Q (⟨some d, .call ⟨.value y, args, as_⟩, ty, pos, aft, none⟩ :: rest) f l := fun a w r s => by
  have he : args.map a.eval = vs.toArray := by
    rw [← hv]; apply Array.toList_inj.1; rw [Array.toList_map]; simp only [List.toList_toArray]; congr 1; funext x; exact r.eval x
  have hfv : a.eval y = .func (.yield lp) #[] #[] := (r.eval y).trans hy
  obtain ⟨fn, tmps, assign, body, hrun, hR⟩ := hY w s
  unfold wpListIn
  rw [if_pos (show Region.wanted _ _ = true by simp [Region.wanted])]
  refine ⟨fun _ _ => trivial, ?_⟩
  have hx : ((Oper.semAt (FF none).round a.eval ⟨some d, .call ⟨.value y, args, as_⟩, ty, pos, aft, none⟩).run P w) = .ok (.round lp fn tmps assign body) w := by
    rw [Oper.semAt_eq _ _ _ (by intro c h; cases h)]
    simp [execOp, resolve, Deferred.ofValue, invoke, he, hfv, hrun]
  rw [hx]
  refine ⟨fun h => (by cases h), hR.mono fun e w' h => ?_⟩
  obtain ⟨v, rfl, h2⟩ := hk e w' h
  exact h2 _ (r.put hd v)
end
theorem calls_into {P : Program} {k : Nat} (hB : callB P k = true) : ∀ args w, (callFunc k args).run P w = .ok (.enter k args) w := fun args w => by
  unfold callB at hB
  cases hf : P.funcs[k]? with
  | none => simp [hf] at hB
  | some fn =>
    simp only [hf, Bool.and_eq_true, Bool.not_eq_true', Option.isSome_iff_exists] at hB
    obtain ⟨h1, c, h2⟩ := hB
    have h1' : ¬ fn.name = "runtime.NumGoroutine" := by simpa using h1
    simp [callFunc, hf, h1', h2]
theorem wpIn_of_cdi {P : Program} {lp m n : Nat} {w0 w : World} {Q : Exit → Act → World → Prop} {f : Fr} {l : List HProp} {c : Code} {a : Act} (r : Rep n a f) (s : Sat w0 w l) (h : CDI P (some lp) m w0 n c Q f l) : c.wpIn (Fence.wide.inRound lp) m P Q a w := h a w r s
theorem wpListIn_run {P : Program} {m : Nat} {ops : Array Oper} {Q : Exit → Act → World → Prop} {o : Oper} {rest : List Oper} {a : Act} {w : World} {v : Value} (hg : o.guard = none) (hnd : ∀ c, o.op ≠ .defer c) (hr : (execOp a.eval o).run P w = .ok (.value v) w) (k : wpListIn Fence.wide m P ops Q rest (a.put o.dst v) w) : wpListIn Fence.wide m P ops Q (o :: rest) a w := by
  refine wpListIn_plain hg fun K hK => ⟨fun _ _ => trivial, ?_⟩
  rw [Oper.semAt_eq _ _ _ hnd, hr]
  exact hK _ _ k
theorem Sat.grown {W w : World} {l : List HProp} (s : Sat W w (Old W [] :: l)) : W.grownBy w none := by
  have b := s.below
  exact ⟨b.os, b.tape, b.output, b.size, fun k hk _ => b.block k hk⟩
theorem Sat.old_at {w0 W w : World} {X : List Nat} {l : List HProp} (s : Sat w0 w (Old W X :: l)) {k : Nat} {o : Obj} (hk : k ∉ X) (ho : W.heap[k]? = some o) : w.heap[k]? = some o := by
  obtain ⟨h, a, x, y, d, rfl, p, q⟩ := s.own
  unfold Old at p; subst p
  refine a k o ?_
  simp [Hp.join, hk, ho]
theorem Sat.ge_of_old {w0 W w : World} {X : List Nat} {l : List HProp} {b : Nat} {o : Obj} (s : Sat w0 w (Blk b o :: Old W X :: l)) (hb : b ∉ X) : W.heap.size ≤ b := by
  obtain ⟨h, a, x, y, d, rfl, p, x', y', d', rfl, p', q⟩ := s.own
  unfold Blk at p; unfold Old at p'; subst p; subst p'
  rcases Nat.lt_or_ge b W.heap.size with hlt | hge
  · exfalso
    have := d b
    obtain ⟨o', ho'⟩ : ∃ o', W.heap[b]? = some o' := ⟨_, Array.getElem?_eq_getElem hlt⟩
    simp [Hp.join, hb, ho'] at this
  · exact hge
/-- what an owned thing's blocks are -/
def Cellish (B0 : Nat) (P : HProp) : Prop := ∀ h, P h → ∀ k o, h k = some o → k < B0 ∨ o.isCells = true
theorem cellish_blk {B0 b : Nat} {cs : Array Value} {t : TypeId} {fr : Nat × Nat} : Cellish B0 (Blk b (.cells cs t fr)) := fun h p k o hk => by
  unfold Blk at p; subst p
  by_cases e : k = b
  · simp [e] at hk; subst hk; exact .inr rfl
  · simp [e] at hk
theorem cellish_row {α : Type} {E : Enc α} {B0 : Nat} {e : TypeId} {v : Value} {xs : List α} : Cellish B0 (Row e E v xs) := fun h p k o hk => by
  rcases p with ⟨_, _, h3⟩ | ⟨g, off, cap, cur, fr, _, _, _, _, _, _, h6⟩
  · rw [h3 k] at hk; cases hk
  · exact cellish_blk h h6 k o hk
theorem cellish_old {W : World} {X : List Nat} : Cellish W.heap.size (Old W X) := fun h p k o hk => by
  unfold Old at p; subst p
  by_cases e : k ∈ X
  · simp [e] at hk
  · simp [e] at hk
    exact .inl (Array.getElem?_eq_some_iff.1 hk).1
theorem cellish_stars {B0 : Nat} : ∀ {l : List HProp}, (∀ P ∈ l, Cellish B0 P) → Cellish B0 (stars l)
  | [], _, h, p, k, o, hk => by rw [p k] at hk; cases hk
  | P :: l, hl, h, p, k, o, hk => by
    obtain ⟨x, y, d, rfl, p1, p2⟩ := p
    unfold Hp.join at hk
    cases hx : x k with
    | some o' => rw [hx] at hk; cases hk; exact hl P (by simp) x p1 k o hx
    | none => rw [hx] at hk; exact cellish_stars (fun Q hQ => hl Q (by simp [hQ])) y p2 k o hk
theorem Sat.turn {w0 w w' : World} {l : List HProp} {B0 : Nat} {row : Option Nat} (s : Sat w0 w l) (hl : ∀ P ∈ l, Cellish B0 P) (hg : w.grownBy w' row) (hr : ∀ r, row = some r → B0 ≤ r ∧ ∃ o : Obj, w.heap[r]? = some o ∧ o.isCells = false) : Sat w0 w' l := by
  obtain ⟨h, a, x⟩ := s.own
  refine ⟨hg.os.trans s.os, hg.tape.trans s.tape, hg.output.trans s.output, Nat.le_trans s.size hg.size, h, fun k o hk => ?_, x⟩
  have hw := a k o hk
  rw [hg.block k (Array.getElem?_eq_some_iff.1 hw).1 fun e => ?_]
  · exact hw
  · obtain ⟨h1, o', h2, h3⟩ := hr k e.symm
    rw [hw] at h2; cases h2
    rcases cellish_stars hl h x k o hk with h4 | h4
    · omega
    · rw [h4] at h3; cases h3
/-- what was owned ahead, and what came of the loop -/
theorem Sat.regain {w0 W0 w : World} {bx : Nat} {o : Obj} {A : HProp} {L : List HProp} (s0 : Sat w0 W0 (Blk bx o :: L)) (s : Sat W0 w (A :: Old W0 [bx] :: [])) : Sat w0 w (A :: L) := by
  obtain ⟨h0, a0, x0, y0, d0, rfl, p0, q0⟩ := s0.own
  obtain ⟨h, a, x, y, d, rfl, p, x1, y1, d1, rfl, p1, q1⟩ := s.own
  unfold Blk at p0; subst p0
  unfold Old at p1; subst p1
  have hy1 : y1 = fun _ => none := emp_iff.1 q1
  subst hy1
  have hsub : ∀ k o', y0 k = some o' → k ≠ bx ∧ W0.heap[k]? = some o' := fun k o' hk => by
    have hne : k ≠ bx := fun e => by
      subst e
      have := d0 k
      simp [hk] at this
    refine ⟨hne, a0 k o' ?_⟩
    simp [Hp.join, hne, hk]
  refine ⟨s.os.trans s0.os, s.tape.trans s0.tape, s.output.trans s0.output, Nat.le_trans s0.size s.size, Hp.join x y0, fun k o' hk => ?_, x, y0, fun k => ?_, rfl, p, q0⟩
  · unfold Hp.join at hk
    cases hx : x k with
    | some o2 => rw [hx] at hk; cases hk; exact a k o' (by simp [Hp.join, hx])
    | none =>
      rw [hx] at hk
      obtain ⟨h1, h2⟩ := hsub k o' hk
      exact a k o' (by simp [Hp.join, hx, h1, h2])
  · rcases d k with e | e
    · exact .inl e
    · right
      cases hy : y0 k with
      | none => rfl
      | some o' =>
        obtain ⟨h1, h2⟩ := hsub k o' hy
        simp [Hp.join, h1, h2] at e
theorem Sat.rebase {W0 W w : World} {X : List Nat} {bx : Nat} {A B : HProp} {m : List HProp} (s : Sat W w (A :: B :: Old W X :: m)) (hos : W.os = W0.os) (htp : W.tape = W0.tape) (hou : W.output = W0.output) (hsz : W0.heap.size ≤ W.heap.size)
    (hk : ∀ k o, k ≠ bx → W0.heap[k]? = some o → k ∉ X ∧ W.heap[k]? = some o) : Sat W0 w [A, B, Old W0 [bx]] := by
  obtain ⟨h, a, x1, y1, d1, rfl, p1, x2, y2, d2, rfl, p2, x3, y3, d3, rfl, p3, q3⟩ := s.own
  unfold Old at p3; subst p3
  let z : Hp := fun k => if k ∈ [bx] then none else W0.heap[k]?
  have hz : ∀ k o, z k = some o → (fun k => if k ∈ X then none else W.heap[k]?) k = some o := fun k o hzk => by
    by_cases e : k = bx
    · simp [z, e] at hzk
    · simp [z, e] at hzk
      obtain ⟨h1, h2⟩ := hk k o e hzk
      simp [h1, h2]
  refine ⟨s.os.trans hos, s.tape.trans htp, s.output.trans hou, Nat.le_trans hsz s.size, Hp.join x1 (Hp.join x2 z), fun k o hko => ?_, x1, Hp.join x2 z, fun k => ?_, rfl, p1, x2, z, fun k => ?_, rfl, p2, z, fun _ => none, disj_none _, (join_none _).symm, rfl, fun _ => rfl⟩
  · refine a k o ?_
    unfold Hp.join at hko ⊢
    cases h1 : x1 k with
    | some o1 => rw [h1] at hko; exact hko
    | none =>
      rw [h1] at hko
      dsimp only at hko ⊢
      cases h2 : x2 k with
      | some o2 => rw [h2] at hko; exact hko
      | none =>
        rw [h2] at hko
        dsimp only at hko ⊢
        have := hz k o hko
        dsimp only at this
        rw [this]
  · rcases d1 k with e | e
    · exact .inl e
    · right
      unfold Hp.join at e ⊢
      cases h2 : x2 k with
      | some o2 => simp [h2] at e
      | none =>
        dsimp only
        cases h3 : z k with
        | none => rfl
        | some o3 =>
          have := hz k o3 h3
          dsimp only at this
          simp [h2, this] at e
  · rcases d2 k with e | e
    · exact .inl e
    · right
      cases h3 : z k with
      | none => rfl
      | some o3 =>
        have := hz k o3 h3
        dsimp only at this
        unfold Hp.join at e
        simp [this] at e
def encSl : Enc (Option Addr × Nat × Nat) := ⟨fun x => [.slice x.1 x.2.1 x.2.2], 1, fun _ => rfl, fun x u hu => by simp at hu; subst hu; rfl, by omega⟩
end Go.SL
