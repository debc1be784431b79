import Derived.Test.YtdeemlgkckpedaaEnk
import Derived.SizedLaws
import Derived.Laws.Externs
set_option linter.unusedVariables false
set_option linter.unusedSimpArgs false
namespace Go.SL
/-! ### Words of 32 bits, and arrays of them -/
def encU32 : Enc UInt32 := ⟨fun x => [.int .u32 (x.toNat : Int)], 1, fun _ => rfl, fun x u hu => by simp at hu; subst hu; rfl, by omega⟩
def wC (ws : List UInt32) : List Value := ws.map fun x => .int .u32 (x.toNat : Int)
theorem wC_len (ws : List UInt32) : (wC ws).length = ws.length := by simp [wC]
theorem wC_one (ws : List UInt32) : ∀ v ∈ wC ws, v.oneCell' = true := fun v hv => by
  obtain ⟨b, _, rfl⟩ := List.mem_map.1 hv
  rfl
theorem wC_at {ws : List UInt32} {j : Nat} (h : j < ws.length) (X : List Value) : (wC ws ++ X).toArray[j]? = some (.int .u32 (ws[j].toNat : Int)) := by
  rw [List.getElem?_toArray, List.getElem?_append_left (by rw [wC_len]; exact h)]
  simp [wC, h]
theorem wC_at0 {ws : List UInt32} {j : Nat} (h : j < ws.length) : (wC ws).toArray[j]? = some (.int .u32 (ws[j].toNat : Int)) := by
  simp [wC, h]
theorem wC_set {ws : List UInt32} {j : Nat} (h : j < ws.length) (u : UInt32) (X : List Value) : (wC ws ++ X).toArray.setIfInBounds j (.int .u32 (u.toNat : Int)) = (wC (ws.set j u) ++ X).toArray := by
  apply Array.toList_inj.1
  rw [Array.toList_setIfInBounds]
  show (wC ws ++ X).set j _ = wC _ ++ X
  rw [List.set_append_left _ _ (by rw [wC_len]; exact h)]
  simp [wC, List.map_set]
theorem wC_set0 {ws : List UInt32} {j : Nat} (u : UInt32) : (wC ws).toArray.setIfInBounds j (.int .u32 (u.toNat : Int)) = (wC (ws.set j u)).toArray := by
  apply Array.toList_inj.1
  rw [Array.toList_setIfInBounds]
  show (wC ws).set j _ = wC _
  simp [wC, List.map_set]
def shl32 (X : UInt32) (m : Nat) : UInt32 := UInt32.ofNat (X.toNat * 2 ^ m)
def shr32 (X : UInt32) (m : Nat) : UInt32 := UInt32.ofNat (X.toNat / 2 ^ m)
def rotr (X : UInt32) (n : Nat) : UInt32 := shl32 X (32 - n) ||| shr32 X n
theorem wrap_u32_of (A : Nat) : IntKind.u32.wrap (A : Int) = ((UInt32.ofNat A).toNat : Int) := by
  rw [wrap_u32_nat]
  simp [UInt32.toNat_ofNat']
theorem mod_u32 (X : UInt32) : X.toNat % 4294967296 = X.toNat := Nat.mod_eq_of_lt X.toNat_lt
section
variable {P : Program} {w0 w : World} {n : Nat} {f : Fr} {l l' : List HProp} {d : Option Tmp} {ty : TypeId} {pos : String} {aft : Array Edge} {g : Option (Nat × Bool)} {x y z : Operand} {T T' : TypeId} {v : Value}
theorem op_add32 (X Y : UInt32) (hx : ev f x = .int .u32 (X.toNat : Int)) (hy : ev f y = .int .u32 (Y.toNat : Int)) : OP P w0 n ⟨d, .binOp .add T x y T', ty, pos, aft, g⟩ f l (.int .u32 ((X + Y).toNat : Int)) := by
  have := op_addw (P := P) (w0 := w0) (n := n) (l := l) (d := d) (ty := ty) (pos := pos) (aft := aft) (g := g) (T := T) (T' := T') hx hy
  rw [← Int.natCast_add, wrap_u32_of, UInt32.ofNat_add, UInt32.ofNat_toNat, UInt32.ofNat_toNat] at this
  exact this
theorem op_xor32 (X Y : UInt32) (hx : ev f x = .int .u32 (X.toNat : Int)) (hy : ev f y = .int .u32 (Y.toNat : Int)) : OP P w0 n ⟨d, .binOp .xor T x y T', ty, pos, aft, g⟩ f l (.int .u32 ((X ^^^ Y).toNat : Int)) := fun M a w r s => by
  simp only [execOp, r.eval, hx, hy, binOp]
  simp [eqGuard_int, Op.intBits]
  show IntKind.u32.wrap ((X.toNat % 4294967296 ^^^ Y.toNat % 4294967296 : Nat) : Int) = _
  rw [mod_u32, mod_u32, wrap_u32_of]
  congr 1
  rw [← UInt32.toNat_xor, UInt32.ofNat_toNat]
theorem op_and32 (X Y : UInt32) (hx : ev f x = .int .u32 (X.toNat : Int)) (hy : ev f y = .int .u32 (Y.toNat : Int)) : OP P w0 n ⟨d, .binOp .and T x y T', ty, pos, aft, g⟩ f l (.int .u32 ((X &&& Y).toNat : Int)) := fun M a w r s => by
  simp only [execOp, r.eval, hx, hy, binOp]
  simp [eqGuard_int, Op.intBits]
  show IntKind.u32.wrap ((X.toNat % 4294967296 &&& Y.toNat % 4294967296 : Nat) : Int) = _
  rw [mod_u32, mod_u32, wrap_u32_of]
  congr 1
  rw [← UInt32.toNat_and, UInt32.ofNat_toNat]
theorem op_or32 (X Y : UInt32) (hx : ev f x = .int .u32 (X.toNat : Int)) (hy : ev f y = .int .u32 (Y.toNat : Int)) : OP P w0 n ⟨d, .binOp .or T x y T', ty, pos, aft, g⟩ f l (.int .u32 ((X ||| Y).toNat : Int)) := fun M a w r s => by
  simp only [execOp, r.eval, hx, hy, binOp]
  simp [eqGuard_int, Op.intBits]
  show IntKind.u32.wrap ((X.toNat % 4294967296 ||| Y.toNat % 4294967296 : Nat) : Int) = _
  rw [mod_u32, mod_u32, wrap_u32_of]
  congr 1
  rw [← UInt32.toNat_or, UInt32.ofNat_toNat]
theorem not32 (X : UInt32) : (4294967295#32 ^^^ X.toBitVec).toNat = (~~~ X).toNat := by
  have h : (4294967295#32 : BitVec 32) = BitVec.allOnes 32 := rfl
  rw [h, BitVec.allOnes_xor]
  rfl
theorem op_not32 (X : UInt32) (hx : ev f x = .int .u32 (X.toNat : Int)) : OP P w0 n ⟨d, .unOp .xor T x, ty, pos, aft, g⟩ f l (.int .u32 ((~~~ X).toNat : Int)) := fun M a w r s => by
  simp only [execOp, r.eval, hx]
  have h : IntKind.u32.wrap ((4294967295#32 ^^^ X.toBitVec).toNat : Int) = (((~~~ X).toNat : Nat) : Int) := by
    rw [not32, wrap_u32_of, UInt32.ofNat_toNat]
  simp [Op.unary, Op.intBits, IntKind.signed, IntKind.max, IntKind.bits]
  exact h.trans (by simp)
theorem op_shl32 {m : Nat} {k' : IntKind} (X : UInt32) (hx : ev f x = .int .u32 (X.toNat : Int)) (hy : ev f y = .int k' (m : Int)) (hm : m ≤ 32) : OP P w0 n ⟨d, .binOp .shl T x y T', ty, pos, aft, g⟩ f l (.int .u32 ((shl32 X m).toNat : Int)) := fun M a w r s => by
  have h1 : ¬ ((m : Int) < 0) := by omega
  have h2 : min m IntKind.u32.bits = m := Nat.min_eq_left hm
  have h3 : IntKind.u32.wrap ((X.toNat : Int) * 2 ^ m) = ((shl32 X m).toNat : Int) := by
    unfold shl32
    rw [← wrap_u32_of]; simp
  simp [execOp, r.eval, hx, hy, eqGuard_int, binOp, Op.shift, h1, h2, h3]
theorem op_shr32 {m : Nat} {k' : IntKind} (X : UInt32) (hx : ev f x = .int .u32 (X.toNat : Int)) (hy : ev f y = .int k' (m : Int)) (hm : m ≤ 32) : OP P w0 n ⟨d, .binOp .shr T x y T', ty, pos, aft, g⟩ f l (.int .u32 ((shr32 X m).toNat : Int)) := by
  have := op_shr_nat (P := P) (w0 := w0) (n := n) (l := l) (d := d) (ty := ty) (pos := pos) (aft := aft) (g := g) (T := T) (T' := T') hx hy hm
  have e : (shr32 X m).toNat = X.toNat / 2 ^ m := by
    unfold shr32
    rw [UInt32.toNat_ofNat']
    exact Nat.mod_eq_of_lt (Nat.lt_of_le_of_lt (Nat.div_le_self _ _) X.toNat_lt)
  rw [e]
  exact this
theorem op_conv32 {A : Nat} {k : IntKind} (hu : P.underlying T' = some (.int .u32)) (hT : (P.underlying T).isSome = true) (hx : ev f x = .int k (A : Int)) : OP P w0 n ⟨d, .convert T T' x, ty, pos, aft, g⟩ f l (.int .u32 ((UInt32.ofNat A).toNat : Int)) := by
  have := op_convi (P := P) (w0 := w0) (n := n) (l := l) (d := d) (ty := ty) (pos := pos) (aft := aft) (g := g) hu hT hx
  rwa [wrap_u32_of] at this
theorem op_neg {k : IntKind} {a : Int} (hx : ev f x = .int k a) : OP P w0 n ⟨d, .unOp .neg T x, ty, pos, aft, g⟩ f l (.int k (k.wrap (0 - a))) := fun M A w r s => by
  simp [execOp, r.eval, hx, Op.unary, Op.intArith]
theorem op_and15 {A : Nat} (hx : ev f x = .int .u8 (A : Int)) (hA : A < 256) (hy : ev f y = .int .u8 15) : OP P w0 n ⟨d, .binOp .and T x y T', ty, pos, aft, g⟩ f l (.int .u8 ((A % 16 : Nat) : Int)) := fun M a w r s => by
  simp only [execOp, r.eval, hx, hy, binOp]
  simp [eqGuard_int, Op.intBits]
  show IntKind.u8.wrap ((A % 256 &&& 15 : Nat) : Int) = _
  rw [Nat.mod_eq_of_lt hA, show (15 : Nat) = 2 ^ 4 - 1 from rfl, Nat.and_two_pow_sub_one_eq_mod, wrap_u8_nat]
  have h : A % 2 ^ 4 < 16 := Nat.mod_lt _ (by decide)
  simp only [UInt8.toNat_ofNat']
  rw [Nat.mod_eq_of_lt (by omega)]
  simp
theorem op_and31 {A m : Nat} (hx : ev f x = .int .u64 (A : Int)) (hA : A < 18446744073709551616) (hy : ev f y = .int .u64 31) (hm : A % 32 = m) : OP P w0 n ⟨d, .binOp .and T x y T', ty, pos, aft, g⟩ f l (.int .u64 (m : Int)) := fun M a w r s => by
  subst hm
  simp only [execOp, r.eval, hx, hy, binOp]
  simp [eqGuard_int, Op.intBits]
  show IntKind.u64.wrap ((A % 18446744073709551616 &&& 31 : Nat) : Int) = _
  rw [Nat.mod_eq_of_lt hA, show (31 : Nat) = 2 ^ 5 - 1 from rfl, Nat.and_two_pow_sub_one_eq_mod]
  have h : A % 2 ^ 5 < 32 := Nat.mod_lt _ (by decide)
  rw [wrap_u64 (by omega) (by omega)]
  rfl
theorem op_sub32m {m k : Nat} (hx : ev f x = .int .u64 32) (hy : ev f y = .int .u64 (m : Int)) (h : m + k = 32) : OP P w0 n ⟨d, .binOp .sub T x y T', ty, pos, aft, g⟩ f l (.int .u64 (k : Int)) := by
  have := op_subw (P := P) (w0 := w0) (n := n) (l := l) (d := d) (ty := ty) (pos := pos) (aft := aft) (g := g) (T := T) (T' := T') hx hy
  rw [show (32 : Int) - (m : Int) = (k : Int) by omega, wrap_u64 (by omega) (by omega)] at this
  exact this
/-- a[i] of an array that is a value -/
def arrpB (P : Program) (T : Nat) : Option Nat := match P.underlying T with
  | some (.array n e) => if P.plainKey e = true then (P.info? e).bind fun i => if i.size = 1 then some n else none else none
  | _ => none
theorem op_ixa {m : Nat} {k : IntKind} {i : Int} {cs : Array Value} (j : Nat) (hT : arrpB P T = some m) (hx : ev f x = .agg cs) (hy : ev f y = .int k i) (hj : i = (j : Int)) (h : j < m) (hv : cs[j]? = some v) : OP P w0 n ⟨d, .index T x y, ty, pos, aft, g⟩ f l v := fun M a w r s => by
  subst hj
  unfold arrpB at hT
  split at hT
  · rename_i n' e hu
    split at hT
    · rename_i hpk
      obtain ⟨q, hq, h1⟩ := Option.bind_eq_some_iff.1 hT
      split at h1
      · rename_i hs
        cases h1
        have h3 : (j : Int) < (m : Int) := by omega
        have hp := run_part_plain w hpk hv
        simp [execOp, r.eval, hx, hy, Instr.index, asIntOf, run_underlying hu, h, h3, sizeOf, typeInfo, hq, hs, hp]
      · cases h1
    · cases hT
  · cases hT
/-- an array of values of a size of one -/
def buildaB (P : Program) (T : Nat) : Option (List Value) := match P.underlying T, (P.info? T).bind (·.zero) with
  | some (.array _ e), some z => (P.info? e).bind fun i => if i.size = 1 then some z.cells.toList else none
  | _, _ => none
theorem op_builda {parts : Array (Nat × Operand)} {z L : List Value} {vs : List (Nat × Value)} (hB : buildaB P T = some z) (hp : (parts.toList.map fun p => (p.1, ev f p.2)) = vs) (hc : Instr.fill (fun i => some (i * 1, 1)) z.toArray vs = some L.toArray) :
    OP P w0 n ⟨d, .build T parts, ty, pos, aft, g⟩ f l (.agg L.toArray) := fun M a w r s => by
  unfold buildaB at hB
  split at hB
  · rename_i n' e zv hu hz
    obtain ⟨q, hq, h1⟩ := Option.bind_eq_some_iff.1 hB
    split at h1
    · rename_i hs
      cases h1
      obtain ⟨q2, hq2, hq3⟩ := Option.bind_eq_some_iff.1 hz
      have hzr : (zeroValue T).run P w = .ok zv w := by simp [zeroValue, typeInfo, hq2, hq3]
      have hev : (parts.map fun (i, x) => (i, a.eval x)) = (parts.map fun (i, x) => (i, ev f x)) := by
        congr 1; funext p; obtain ⟨i, x⟩ := p; simp only [r.eval]
      have hp' : (parts.map fun (i, x) => (i, ev f x)).toList = vs := by
        rw [Array.toList_map]; exact hp
      have hc' : Instr.fill (fun i => some (i * 1, 1)) zv.cells vs = some L.toArray := by simpa using hc
      simp only [Nat.mul_one] at hc'
      have hp2 : parts.toList.map (fun p => (p.1, ev f p.2)) = vs := hp
      simp [execOp, Instr.build, hev, hzr, run_underlying hu, sizeOf, typeInfo, hq, hs]
      rw [hp2, hc']
      simp
    · cases h1
  · cases hB
/-- a[j:] and a[:j] of an array that a pointer leads to -/
theorem op_slicea_from {m b o : Nat} {k : IntKind} {i : Int} (j : Nat) (hT : arr1B P T = some m) (hx : ev f x = .pointer (some ⟨b, o, none⟩)) (hy : ev f y = .int k i) (hj : i = (j : Int)) (h : j < m) : OP P w0 n ⟨d, .slice T x (some y) none none, ty, pos, aft, g⟩ f l (.slice (some ⟨b, o + j, none⟩) (m - j) (m - j)) := fun M a w r s => by
  subst hj
  unfold arr1B at hT
  split at hT
  · rename_i n' e hu
    obtain ⟨q, hq, h1⟩ := Option.bind_eq_some_iff.1 hT
    split at h1
    · rename_i hs
      cases h1
      have hadd : (⟨b, o, none⟩ : Addr).add j = ⟨b, o + j, none⟩ := by unfold Addr.add; split <;> simp_all
      have h2 : j ≤ m := by omega
      have h4 : ¬ m = j := by omega
      simp [execOp, r.eval, hx, hy, Instr.sliceAt, Instr.sureAddr, Instr.sliceBounds, Instr.sliceBound, asIntOf, run_underlying hu, h, h2, h4, sizeOf, typeInfo, hq, hs, hadd]
    · cases h1
  · cases hT
theorem op_slicea_to {m b o : Nat} {k : IntKind} {i : Int} (j : Nat) (hT : arr1B P T = some m) (hx : ev f x = .pointer (some ⟨b, o, none⟩)) (hy : ev f y = .int k i) (hj : i = (j : Int)) (h : j ≤ m) (h0 : 0 < m) : OP P w0 n ⟨d, .slice T x none (some y) none, ty, pos, aft, g⟩ f l (.slice (some ⟨b, o, none⟩) j m) := fun M a w r s => by
  subst hj
  unfold arr1B at hT
  split at hT
  · rename_i n' e hu
    obtain ⟨q, hq, h1⟩ := Option.bind_eq_some_iff.1 hT
    split at h1
    · rename_i hs
      cases h1
      have hadd : (⟨b, o, none⟩ : Addr).add 0 = ⟨b, o, none⟩ := by unfold Addr.add; split <;> simp_all
      have h4 : ¬ m = 0 := by omega
      simp [execOp, r.eval, hx, hy, Instr.sliceAt, Instr.sureAddr, Instr.sliceBounds, Instr.sliceBound, asIntOf, run_underlying hu, h, h4, sizeOf, typeInfo, hq, hs, hadd]
    · cases h1
  · cases hT
theorem op_slicea_all {m b o : Nat} (hT : arr1B P T = some m) (hx : ev f x = .pointer (some ⟨b, o, none⟩)) : OP P w0 n ⟨d, .slice T x none none none, ty, pos, aft, g⟩ f l (.slice (some ⟨b, o, none⟩) m m) := fun M a w r s => by
  unfold arr1B at hT
  split at hT
  · rename_i n' e hu
    obtain ⟨q, hq, h1⟩ := Option.bind_eq_some_iff.1 hT
    split at h1
    · rename_i hs
      cases h1
      have hadd : (⟨b, o, none⟩ : Addr).add 0 = ⟨b, o, none⟩ := by unfold Addr.add; split <;> simp_all
      by_cases h4 : m = 0
      · subst h4
        simp [execOp, r.eval, hx, Instr.sliceAt, Instr.sureAddr, Instr.sliceBounds, Instr.sliceBound, asIntOf, run_underlying hu, sizeOf, typeInfo, hq, hs, hadd]
      · simp [execOp, r.eval, hx, Instr.sliceAt, Instr.sureAddr, Instr.sliceBounds, Instr.sliceBound, asIntOf, run_underlying hu, h4, sizeOf, typeInfo, hq, hs, hadd]
    · cases h1
  · cases hT
/-- copy within one block, of cells of a size of one -/
def slice1B (P : Program) (T : Nat) : Bool := match P.underlying T with
  | some (.slice e) => (match P.info? e with | some i => i.size == 1 | none => false)
  | _ => false
theorem os_copyw {as : Array TypeId} {b o1 n1 c1 o2 n2 c2 : Nat} {cs : Array Value} {t : TypeId} {fr : Nat × Nat} (L : List Value) (S : TypeId) (hS : as[0]? = some S) (hT : slice1B P S = true) (hx : ev f x = .slice (some ⟨b, o1, none⟩) n1 c1) (hy : ev f y = .slice (some ⟨b, o2, none⟩) n2 c2)
    (h1 : o1 + min n2 n1 ≤ cs.size) (h2 : o2 + min n2 n1 ≤ cs.size) (hone : ∀ u ∈ cs.toList, u.oneCell' = true) (hf : Free cs.size fr)
    (hL : cs.toList.take o1 ++ (cs.toList.drop o2).take (min n2 n1) ++ cs.toList.drop (o1 + min n2 n1) = L) :
    OS P w0 n ⟨d, .call ⟨.builtin .copy, #[x, y], as⟩, ty, pos, aft, g⟩ f (Blk b (.cells cs t fr) :: l) (fun v l' => v = .int .i64 ((min n2 n1 : Nat) : Int) ∧ l' = Blk b (.cells L.toArray t fr) :: l) := fun a w r s => by
  subst hL
  unfold slice1B at hT
  split at hT
  · rename_i e hu
    split at hT
    · rename_i i hi
      have hs : i.size = 1 := by simpa using hT
      have hk : ((cs.toList.drop o2).take (min n2 n1)).length = min n2 n1 := by simp; omega
      have hfc := run_firstCells_some (P := P) w 1 (min n2 n1) ⟨b, o2, none⟩ n2 c2 ((cs.toList.drop o2).take (min n2 n1)) (by rw [hk, Nat.mul_one]) (fun j u hu => by
        have hadd : (⟨b, o2, none⟩ : Addr).add j = ⟨b, o2 + j, none⟩ := by unfold Addr.add; split <;> simp_all
        rw [hadd, cell_of_row w b (o2 + j) cs t fr s.blk]
        obtain ⟨hj, _⟩ := List.getElem?_eq_some_iff.1 hu
        rw [hk] at hj
        rw [List.getElem?_take_of_lt hj, List.getElem?_drop] at hu
        simpa using hu)
      have hst := run_storeCells_row P b o1 t fr ((cs.toList.drop o2).take (min n2 n1)) 0 cs w s.blk (by rw [hk]; omega) (fun u hu => hone u (List.mem_of_mem_drop (List.mem_of_mem_take hu))) hf
      rw [hk] at hst
      simp only [Nat.add_zero] at hst
      have hb : (Builtin.copy_ as ty #[.slice (some ⟨b, o1, none⟩) n1 c1, .slice (some ⟨b, o2, none⟩) n2 c2]).run P w = .ok (.int .i64 ((min n2 n1 : Nat) : Int)) (w.setRow b (cs.toList.take o1 ++ (cs.toList.drop o2).take (min n2 n1) ++ cs.toList.drop (o1 + min n2 n1)).toArray) := by
        have hfc' := hfc
        have hst' := hst
        simp only [Builtin.copy_, hS]
        simp [run_underlying hu, Builtin.lenOf, sizeOf, typeInfo, hi, hs]
        rw [show Nat.min n2 n1 = min n2 n1 from rfl, hfc']
        simp
        rw [show (List.take o1 cs.toList ++ (List.take (min n2 n1) (List.drop o2 cs.toList) ++ List.drop (o1 + min n2 n1) cs.toList)) = List.take o1 cs.toList ++ List.take (min n2 n1) (List.drop o2 cs.toList) ++ List.drop (o1 + min n2 n1) cs.toList by rw [List.append_assoc], hst']
        simp [goInt]
      have : (execOp a.eval ⟨d, .call ⟨.builtin .copy, #[x, y], as⟩, ty, pos, aft, g⟩).run P w = .ok (.value (.int .i64 ((min n2 n1 : Nat) : Int))) (w.setRow b (cs.toList.take o1 ++ (cs.toList.drop o2).take (min n2 n1) ++ cs.toList.drop (o1 + min n2 n1)).toArray) := by
        have hax : a.eval x = ev f x := r.eval x
        have hay : a.eval y = ev f y := r.eval y
        simp only [List.append_assoc] at hb ⊢
        simp [execOp, resolve, invoke, builtin, hax, hay, hx, hy, hb]
      rw [this]
      exact ⟨_, ⟨rfl, rfl⟩, s.setRow⟩
    · cases hT
  · cases hT
/-- v[j:] of an owned slice, which is owned on -/
theorem Sat.rowDrop {α : Type} {E : Enc α} {e : TypeId} {xs : List α} {ao : Option Addr} {c : Nat} (j : Nat) (hj : j ≤ xs.length) (s : Sat w0 w (Row e E (.slice ao xs.length c) xs :: l)) : xs.length ≤ c ∧ Sat w0 w (Row e E (.slice (if c = j then ao else oad ao (j * E.size)) (xs.drop j).length (c - j)) (xs.drop j) :: l) := by
  rcases s.rowOpen with ⟨hv, rfl, s'⟩ | ⟨g, off, cap, cur, fr, hv, h2, h3, h4, h5, hf, s'⟩
  · injection hv with h1 _ h3
    subst h1 h3
    refine ⟨Nat.zero_le _, ?_⟩
    have hj0 : j = 0 := by simpa using hj
    subst hj0
    simpa using s'.rowNil (E := E) (e := e)
  · injection hv with h1 _ h6
    subst h1 h6
    refine ⟨h2, ?_⟩
    by_cases hc : c = j
    · subst hc
      rw [if_pos rfl, Nat.sub_self]
      have hd : xs.drop c = [] := List.drop_eq_nil_of_le h2
      rw [hd]
      exact s'.rowMk hf (Nat.le_refl _) (Nat.zero_le _) (by simp; omega) (by simp [Enc.flat])
    · rw [if_neg hc]
      have hadd : (⟨g, off, none⟩ : Addr).add (j * E.size) = ⟨g, off + j * E.size, none⟩ := by unfold Addr.add; split <;> simp_all
      have he : oad (some ⟨g, off, none⟩) (j * E.size) = some ⟨g, off + j * E.size, none⟩ := by simp [oad, hadd]
      rw [he]
      have hm : j * E.size + (c - j) * E.size = c * E.size := by rw [← Nat.add_mul]; congr 1; omega
      have hx : j * E.size + (xs.length - j) * E.size = xs.length * E.size := by rw [← Nat.add_mul]; congr 1; omega
      refine s'.rowMk hf (by rw [List.length_drop]; omega) (by omega) (by omega) ?_
      rw [List.length_drop]
      have h7 : E.flat xs = E.flat (xs.take j) ++ E.flat (xs.drop j) := by rw [← E.flat_append, List.take_append_drop]
      have h8 : (E.flat (xs.take j)).length = j * E.size := by rw [E.flat_length, List.length_take, Nat.min_eq_left hj]
      have h9 := congrArg (List.drop (j * E.size)) h5
      rw [h7, ← h8, List.drop_left, h8, List.drop_take, List.drop_drop, ← hx, Nat.add_sub_cancel_left] at h9
      exact h9
theorem os_slicerow_from {α : Type} {E : Enc α} {e by_ c : Nat} {k : IntKind} {i : Int} {ao : Option Addr} {m : Nat} {xs : List α} (j : Nat) (hT : sliceB P T = some (e, E.size, by_)) (hx : ev f x = .slice ao m c) (hy : ev f y = .int k i) (hj : i = (j : Int)) (hm : m = xs.length) (h : j ≤ m) : OS P w0 n ⟨d, .slice T x (some y) none none, ty, pos, aft, g⟩ f (Row e E (.slice ao m c) xs :: l) (fun v l' => ∃ ao' c', v = .slice ao' (xs.drop j).length c' ∧ l' = Row e E (.slice ao' (xs.drop j).length c') (xs.drop j) :: l) := fun a w r s => by
  subst hm
  obtain ⟨hc, s'⟩ := s.rowDrop j h
  refine ((os_q (op_slice_from (P := P) (w0 := w0) (n := n) (l := Row e E (.slice ao xs.length c) xs :: l) (d := d) (ty := ty) (pos := pos) (aft := aft) (g := g) j hT hx hy hj h)) a w r s).mono ?_
  rintro v w' ⟨l', ⟨rfl, rfl⟩, s2⟩
  have s3 := (s2.rowDrop j h).2
  rw [List.length_drop] at s3
  exact ⟨_, ⟨_, _, by rw [List.length_drop], rfl⟩, by rw [List.length_drop]; exact s3⟩
/-- v[:j] of an owned slice, lent -/
theorem os_slicerow_lend {α : Type} {E : Enc α} {e by_ c : Nat} {k : IntKind} {i : Int} {ao : Option Addr} {m : Nat} {xs : List α} (j : Nat) (hT : sliceB P T = some (e, E.size, by_)) (hx : ev f x = .slice ao m c) (hy : ev f y = .int k i) (hj : i = (j : Int)) (hm : m = xs.length) (h : j ≤ m) : OS P w0 n ⟨d, .slice T x none (some y) none, ty, pos, aft, g⟩ f (Row e E (.slice ao m c) xs :: l) (fun v l' => v = .slice ao (xs.take j).length c ∧ l' = Row e E (.slice ao m c) xs :: l) := fun a w r s => by
  subst hm
  obtain ⟨hc, _⟩ := s.rowDrop j h
  refine ((os_q (op_slice_to (P := P) (w0 := w0) (n := n) (l := Row e E (.slice ao xs.length c) xs :: l) (d := d) (ty := ty) (pos := pos) (aft := aft) (g := g) j hT hx hy hj (by omega))) a w r s).mono ?_
  rintro v w' ⟨l', ⟨rfl, rfl⟩, s2⟩
  exact ⟨_, ⟨by rw [List.length_take, Nat.min_eq_left h], rfl⟩, s2⟩
end
theorem et_4 {P : Program} {w0 : World} {n : Nat} {Q : Exit → Act → World → Prop} {f : Fr} {l M : List HProp} {ops : Array Oper} {imps : List Nat} {k : Nat} {listed : Array Bool} {i1 i2 i3 i4 : Nat} (hrs : Region.ready .any ops listed = [i1, i2, i3, i4]) (h1 : EI P w0 n ops imps (LN0 P w0 ops Q l) l k listed f M i1) (h2 : EI P w0 n ops imps (LN0 P w0 ops Q l) l k listed f M i2) (h3 : EI P w0 n ops imps (LN0 P w0 ops Q l) l k listed f M i3) (h4 : EI P w0 n ops imps (LN0 P w0 ops Q l) l k listed f M i4) : ET P w0 n ops imps ops.size (LN0 P w0 ops Q l) l (k + 1) listed f M :=
  et_any [i1, i2, i3, i4] (by simp) hrs fun j hj => by simp at hj; rcases hj with rfl | rfl | rfl | rfl <;> assumption
/-! ### A cut: a part of the code is left in many orders, the rest is walked once -/
def CQ (w0 : World) (n : Nat) (M : List (Nat × Nat)) (f0 : Fr) {α : Type} (S : α → List (Nat × Value)) (L : α → List HProp) : Exit → Act → World → Prop
  | .normal => fun a w => ∃ y f, Agree f (S y) ∧ Kept M f0 f ∧ Rep n a f ∧ Sat w0 w (L y)
  | _ => fun _ _ => False
theorem cd_cut {P : Program} {w0 : World} {n : Nat} {Q : Exit → Act → World → Prop} {f : Fr} {l : List HProp} {α : Type} {c1 c2 : Code} (M : List (Nat × Nat)) (S : α → List (Nat × Value)) (L : α → List HProp)
    (h1 : CD P w0 n c1 (CQ w0 n M f S L) f l) (h2 : ∀ x f', CD P w0 n c2 Q (upds (over M f f') (S x)) (L x)) : CD P w0 n (.seq c1 c2) Q f l := fun a w r s => by
  refine wp_seq (wp_mono (h1 a w r s) fun e a' w' hq => ?_)
  cases e with
  | normal =>
    obtain ⟨y, f', hA, hK, hr, hs⟩ := hq
    exact h2 y f' a' w' (by rw [hK.over_eq, upds_agree hA]; exact hr) hs
  | _ => exact hq.elim
theorem px_cut {w0 : World} {n : Nat} {f f0 : Fr} {l : List HProp} {α : Type} {M : List (Nat × Nat)} {S : α → List (Nat × Value)} {L : α → List HProp} (y : α) (h3 : Agree f (S y)) (hk : Kept M f0 f) (h4 : ∀ w, Sat w0 w l → Sat w0 w (L y)) :
    PX w0 n .normal (CQ w0 n M f0 S L) f l := fun _ w r s => ⟨y, f, h3, hk, r, h4 w s⟩
/-- &a[i] of an array at the block's beginning -/
theorem op_aidx0 {P : Program} {w0 : World} {n : Nat} {f : Fr} {l : List HProp} {d : Option Tmp} {ty : TypeId} {pos : String} {aft : Array Edge} {g : Option (Nat × Bool)} {x y : Operand} {T : TypeId} {m b : Nat} {k : IntKind} {i : Int} (j : Nat) (hT : arr1B P T = some m) (hx : ev f x = .pointer (some ⟨b, 0, none⟩)) (hy : ev f y = .int k i) (hj : i = (j : Int)) (h : j < m) : OP P w0 n ⟨d, .indexAddr T x y, ty, pos, aft, g⟩ f l (.pointer (some ⟨b, j, none⟩)) := by
  have := op_aidx (w0 := w0) (n := n) (l := l) (d := d) (ty := ty) (pos := pos) (aft := aft) (g := g) j hT hx hy hj h
  rwa [Nat.zero_add] at this
/-- eight words -/
def W8 := { l : List UInt32 // l.length = 8 }
instance : DecidableEq W8 := inferInstanceAs (DecidableEq { l : List UInt32 // l.length = 8 })
def W8.zero : W8 := ⟨List.replicate 8 0, rfl⟩
def w8C (r : W8) : List Value := wC r.1
theorem w8C_len (r : W8) : (w8C r).length = 8 := by unfold w8C; rw [wC_len]; exact r.2
theorem w8C_take (r : W8) (X : List Value) : (w8C r ++ X).take 8 = w8C r := by
  rw [List.take_append_of_le_length (by rw [w8C_len]; exact Nat.le_refl _), List.take_of_length_le (by rw [w8C_len]; exact Nat.le_refl _)]
theorem w8C_take' (r : W8) : (w8C r).take 8 = w8C r := List.take_of_length_le (by rw [w8C_len]; exact Nat.le_refl _)
theorem w8C_drop (r : W8) (X : List Value) : (w8C r ++ X).drop 8 = X := by
  have := w8C_len r
  rw [← this, List.drop_left]
theorem w8C_one (r : W8) : ∀ v ∈ w8C r, v.oneCell' = true := wC_one r.1
/-- sixteen bytes -/
def Tag := { l : List UInt8 // l.length = 16 }
instance : DecidableEq Tag := inferInstanceAs (DecidableEq { l : List UInt8 // l.length = 16 })
def Tag.zero : Tag := ⟨List.replicate 16 0, rfl⟩
def tagC (r : Tag) : List Value := r.1.map fun b => .int .u8 (b.toNat : Int)
theorem tagC_len (r : Tag) : (tagC r).length = 16 := by simp [tagC, r.2]
theorem tagC_take (r : Tag) (X : List Value) : (tagC r ++ X).take 16 = tagC r := by
  rw [List.take_append_of_le_length (by rw [tagC_len]; exact Nat.le_refl _), List.take_of_length_le (by rw [tagC_len]; exact Nat.le_refl _)]
theorem tagC_take' (r : Tag) : (tagC r).take 16 = tagC r := List.take_of_length_le (by rw [tagC_len]; exact Nat.le_refl _)
theorem tagC_drop (r : Tag) (X : List Value) : (tagC r ++ X).drop 16 = X := by
  have := tagC_len r
  rw [← this, List.drop_left]
theorem tagC_one (r : Tag) : ∀ v ∈ tagC r, v.oneCell' = true := fun v hv => by
  obtain ⟨b, _, rfl⟩ := List.mem_map.1 hv
  rfl
end Go.SL

set_option linter.unusedVariables false
set_option linter.unusedSimpArgs false
namespace Go.SL
/-! ### St -/
structure St where
  w : W8
  rest : SlV
  size : Nat
  deriving DecidableEq
def St.zero : St := ⟨W8.zero, ⟨none, 0, 0⟩, 0⟩
def stC (v : St) : List Value := w8C v.w ++ ([SlV.v v.rest] ++ ([.int .u64 (v.size : Int)]))
theorem stC_len (v : St) : (stC v).length = 10 := by simp [stC, w8C_len]
theorem stC_take' (v : St) : (stC v).take 10 = stC v := List.take_of_length_le (by rw [stC_len]; exact Nat.le_refl _)
theorem stC_ta (v : St) : ((stC v).drop 0).take 10 = stC v := stC_take' v
theorem stC_one (v : St) : ∀ u ∈ stC v, u.oneCell' = true := fun u hu => by
  simp only [stC, List.mem_append, List.mem_singleton] at hu
  rcases hu with h | h | h
  · exact w8C_one _ u h
  · subst h; rfl
  · subst h; rfl
def encSt : Enc St := ⟨stC, 10, stC_len, stC_one, by omega⟩
theorem stC_d0 (v : St) : (stC v).drop 0 = w8C v.w ++ ([SlV.v v.rest] ++ ([.int .u64 (v.size : Int)])) := rfl
theorem stC_f0 (v : St) : ((stC v).drop 0).take 8 = w8C v.w := by
  rw [stC_d0]
  exact w8C_take _ _
theorem stC_af0 (v : St) : ((stC v).toArray.toList.drop 0).take 8 = w8C v.w := stC_f0 v
theorem stC_d8 (v : St) : (stC v).drop 8 = [SlV.v v.rest] ++ ([.int .u64 (v.size : Int)]) := by
  simp only [stC, List.drop_append, List.length_append, w8C_len, List.length_singleton, List.length_cons, List.length_nil]
  have ew8 : ∀ r : W8, (w8C r).drop 8 = [] := fun r => List.drop_eq_nil_of_le (by rw [w8C_len]; exact Nat.le_refl _)
  simp [ew8, List.drop_eq_nil_of_le, w8C_len]
theorem stC_l8 (v : St) : (stC v)[8]? = some (SlV.v v.rest) := by
  have h := stC_d8 v
  have h2 : ((stC v).drop 8)[0]? = some (SlV.v v.rest) := by rw [h]; rfl
  rwa [List.getElem?_drop] at h2
theorem stC_a8 (v : St) : (stC v).toArray[8]? = some (SlV.v v.rest) := by
  rw [List.getElem?_toArray]; exact stC_l8 v
theorem stC_s8 (v : St) (x : SlV) : (stC v).toArray.setIfInBounds 8 (SlV.v x) = (stC { v with rest := x }).toArray := by
  apply Array.toList_inj.1
  rw [Array.toList_setIfInBounds]
  show (stC v).set 8 _ = stC _
  unfold stC
  simp [List.set_append, w8C_len]
theorem stC_d9 (v : St) : (stC v).drop 9 = [.int .u64 (v.size : Int)] := by
  simp only [stC, List.drop_append, List.length_append, w8C_len, List.length_singleton, List.length_cons, List.length_nil]
  have ew8 : ∀ r : W8, (w8C r).drop 8 = [] := fun r => List.drop_eq_nil_of_le (by rw [w8C_len]; exact Nat.le_refl _)
  simp [ew8, List.drop_eq_nil_of_le, w8C_len]
theorem stC_l9 (v : St) : (stC v)[9]? = some (.int .u64 (v.size : Int)) := by
  have h := stC_d9 v
  have h2 : ((stC v).drop 9)[0]? = some (.int .u64 (v.size : Int)) := by rw [h]; rfl
  rwa [List.getElem?_drop] at h2
theorem stC_a9 (v : St) : (stC v).toArray[9]? = some (.int .u64 (v.size : Int)) := by
  rw [List.getElem?_toArray]; exact stC_l9 v
theorem stC_s9 (v : St) (x : Nat) : (stC v).toArray.setIfInBounds 9 (.int .u64 (x : Int)) = (stC { v with size := x }).toArray := by
  apply Array.toList_inj.1
  rw [Array.toList_setIfInBounds]
  show (stC v).set 9 _ = stC _
  unfold stC
  simp [List.set_append, w8C_len]
theorem stC_p0 (v : St) (x : W8) : (stC v).take 0 ++ (w8C x) ++ (stC v).drop 8 = stC { v with w := x } := by
  unfold stC
  simp [List.take_append, List.drop_append, w8C_len, List.take_of_length_le, List.drop_eq_nil_of_le]
theorem stC_b0 (v : St) (x : W8) (r : List (Nat × Value)) : fill2 [(0, 8), (8, 1), (9, 1)] (stC v) ((0, .agg (w8C x).toArray) :: r) = fill2 [(0, 8), (8, 1), (9, 1)] (stC { v with w := x }) r := congrArg (fun q => fill2 [(0, 8), (8, 1), (9, 1)] q r) (stC_p0 v x)
theorem stC_k0 (v : St) (x : W8) {r : List (Nat × Value)} (h : FillOk [(0, 8), (8, 1), (9, 1)] (stC v).length r) : FillOk [(0, 8), (8, 1), (9, 1)] (stC v).length ((0, .agg (w8C x).toArray) :: r) := ⟨⟨by simp [Value.cells, w8C_len], by rw [stC_len]; rfl⟩, h⟩
theorem stC_p8 (v : St) (x : SlV) : (stC v).take 8 ++ ([SlV.v x]) ++ (stC v).drop 9 = stC { v with rest := x } := by
  unfold stC
  simp [List.take_append, List.drop_append, w8C_len, List.take_of_length_le, List.drop_eq_nil_of_le]
theorem stC_b1 (v : St) (x : SlV) (r : List (Nat × Value)) : fill2 [(0, 8), (8, 1), (9, 1)] (stC v) ((1, SlV.v x) :: r) = fill2 [(0, 8), (8, 1), (9, 1)] (stC { v with rest := x }) r := congrArg (fun q => fill2 [(0, 8), (8, 1), (9, 1)] q r) (stC_p8 v x)
theorem stC_k1 (v : St) (x : SlV) {r : List (Nat × Value)} (h : FillOk [(0, 8), (8, 1), (9, 1)] (stC v).length r) : FillOk [(0, 8), (8, 1), (9, 1)] (stC v).length ((1, SlV.v x) :: r) := ⟨⟨by simp [Value.cells, ], by rw [stC_len]; rfl⟩, h⟩
theorem stC_p9 (v : St) (x : Nat) : (stC v).take 9 ++ ([.int .u64 (x : Int)]) ++ (stC v).drop 10 = stC { v with size := x } := by
  unfold stC
  simp [List.take_append, List.drop_append, w8C_len, List.take_of_length_le, List.drop_eq_nil_of_le]
theorem stC_b2 (v : St) (x : Nat) (r : List (Nat × Value)) : fill2 [(0, 8), (8, 1), (9, 1)] (stC v) ((2, .int .u64 (x : Int)) :: r) = fill2 [(0, 8), (8, 1), (9, 1)] (stC { v with size := x }) r := congrArg (fun q => fill2 [(0, 8), (8, 1), (9, 1)] q r) (stC_p9 v x)
theorem stC_k2 (v : St) (x : Nat) {r : List (Nat × Value)} (h : FillOk [(0, 8), (8, 1), (9, 1)] (stC v).length r) : FillOk [(0, 8), (8, 1), (9, 1)] (stC v).length ((2, .int .u64 (x : Int)) :: r) := ⟨⟨by simp [Value.cells, ], by rw [stC_len]; rfl⟩, h⟩
/-! ### Msg -/
structure Msg where
  kind : Int
  slot : Int
  target : Root
  member : Int
  body : Nat
  bits : SlV
  tag : Tag
  deriving DecidableEq
def Msg.zero : Msg := ⟨0, 0, Root.zero, 0, 0, ⟨none, 0, 0⟩, Tag.zero⟩
def msgC (v : Msg) : List Value := [.int .i64 v.kind] ++ ([.int .i64 v.slot] ++ (rootC v.target ++ ([.int .i64 v.member] ++ ([.int .u64 (v.body : Int)] ++ ([SlV.v v.bits] ++ (tagC v.tag))))))
theorem msgC_len (v : Msg) : (msgC v).length = 53 := by simp [msgC, rootC_len, tagC_len]
theorem msgC_take' (v : Msg) : (msgC v).take 53 = msgC v := List.take_of_length_le (by rw [msgC_len]; exact Nat.le_refl _)
theorem msgC_ta (v : Msg) : ((msgC v).drop 0).take 53 = msgC v := msgC_take' v
theorem msgC_one (v : Msg) : ∀ u ∈ msgC v, u.oneCell' = true := fun u hu => by
  simp only [msgC, List.mem_append, List.mem_singleton] at hu
  rcases hu with h | h | h | h | h | h | h
  · subst h; rfl
  · subst h; rfl
  · exact rootC_one _ u h
  · subst h; rfl
  · subst h; rfl
  · subst h; rfl
  · exact tagC_one _ u h
def encMsg : Enc Msg := ⟨msgC, 53, msgC_len, msgC_one, by omega⟩
theorem msgC_d0 (v : Msg) : (msgC v).drop 0 = [.int .i64 v.kind] ++ ([.int .i64 v.slot] ++ (rootC v.target ++ ([.int .i64 v.member] ++ ([.int .u64 (v.body : Int)] ++ ([SlV.v v.bits] ++ (tagC v.tag)))))) := rfl
theorem msgC_l0 (v : Msg) : (msgC v)[0]? = some (.int .i64 v.kind) := by
  have h := msgC_d0 v
  have h2 : ((msgC v).drop 0)[0]? = some (.int .i64 v.kind) := by rw [h]; rfl
  rwa [List.getElem?_drop] at h2
theorem msgC_a0 (v : Msg) : (msgC v).toArray[0]? = some (.int .i64 v.kind) := by
  rw [List.getElem?_toArray]; exact msgC_l0 v
theorem msgC_s0 (v : Msg) (x : Int) : (msgC v).toArray.setIfInBounds 0 (.int .i64 x) = (msgC { v with kind := x }).toArray := by
  apply Array.toList_inj.1
  rw [Array.toList_setIfInBounds]
  show (msgC v).set 0 _ = msgC _
  unfold msgC
  simp [List.set_append, rootC_len, tagC_len]
theorem msgC_d1 (v : Msg) : (msgC v).drop 1 = [.int .i64 v.slot] ++ (rootC v.target ++ ([.int .i64 v.member] ++ ([.int .u64 (v.body : Int)] ++ ([SlV.v v.bits] ++ (tagC v.tag))))) := rfl
theorem msgC_l1 (v : Msg) : (msgC v)[1]? = some (.int .i64 v.slot) := by
  have h := msgC_d1 v
  have h2 : ((msgC v).drop 1)[0]? = some (.int .i64 v.slot) := by rw [h]; rfl
  rwa [List.getElem?_drop] at h2
theorem msgC_a1 (v : Msg) : (msgC v).toArray[1]? = some (.int .i64 v.slot) := by
  rw [List.getElem?_toArray]; exact msgC_l1 v
theorem msgC_s1 (v : Msg) (x : Int) : (msgC v).toArray.setIfInBounds 1 (.int .i64 x) = (msgC { v with slot := x }).toArray := by
  apply Array.toList_inj.1
  rw [Array.toList_setIfInBounds]
  show (msgC v).set 1 _ = msgC _
  unfold msgC
  simp [List.set_append, rootC_len, tagC_len]
theorem msgC_d2 (v : Msg) : (msgC v).drop 2 = rootC v.target ++ ([.int .i64 v.member] ++ ([.int .u64 (v.body : Int)] ++ ([SlV.v v.bits] ++ (tagC v.tag)))) := rfl
theorem msgC_f2 (v : Msg) : ((msgC v).drop 2).take 32 = rootC v.target := by
  rw [msgC_d2]
  exact rootC_take _ _
theorem msgC_af2 (v : Msg) : ((msgC v).toArray.toList.drop 2).take 32 = rootC v.target := msgC_f2 v
theorem msgC_d34 (v : Msg) : (msgC v).drop 34 = [.int .i64 v.member] ++ ([.int .u64 (v.body : Int)] ++ ([SlV.v v.bits] ++ (tagC v.tag))) := by
  simp only [msgC, List.drop_append, List.length_append, rootC_len, tagC_len, List.length_singleton, List.length_cons, List.length_nil]
  have eroot : ∀ r : Root, (rootC r).drop 32 = [] := fun r => List.drop_eq_nil_of_le (by rw [rootC_len]; exact Nat.le_refl _)
  have etag : ∀ r : Tag, (tagC r).drop 16 = [] := fun r => List.drop_eq_nil_of_le (by rw [tagC_len]; exact Nat.le_refl _)
  simp [eroot, etag, List.drop_eq_nil_of_le, rootC_len, tagC_len]
theorem msgC_l34 (v : Msg) : (msgC v)[34]? = some (.int .i64 v.member) := by
  have h := msgC_d34 v
  have h2 : ((msgC v).drop 34)[0]? = some (.int .i64 v.member) := by rw [h]; rfl
  rwa [List.getElem?_drop] at h2
theorem msgC_a34 (v : Msg) : (msgC v).toArray[34]? = some (.int .i64 v.member) := by
  rw [List.getElem?_toArray]; exact msgC_l34 v
theorem msgC_s34 (v : Msg) (x : Int) : (msgC v).toArray.setIfInBounds 34 (.int .i64 x) = (msgC { v with member := x }).toArray := by
  apply Array.toList_inj.1
  rw [Array.toList_setIfInBounds]
  show (msgC v).set 34 _ = msgC _
  unfold msgC
  simp [List.set_append, rootC_len, tagC_len]
theorem msgC_d35 (v : Msg) : (msgC v).drop 35 = [.int .u64 (v.body : Int)] ++ ([SlV.v v.bits] ++ (tagC v.tag)) := by
  simp only [msgC, List.drop_append, List.length_append, rootC_len, tagC_len, List.length_singleton, List.length_cons, List.length_nil]
  have eroot : ∀ r : Root, (rootC r).drop 32 = [] := fun r => List.drop_eq_nil_of_le (by rw [rootC_len]; exact Nat.le_refl _)
  have etag : ∀ r : Tag, (tagC r).drop 16 = [] := fun r => List.drop_eq_nil_of_le (by rw [tagC_len]; exact Nat.le_refl _)
  simp [eroot, etag, List.drop_eq_nil_of_le, rootC_len, tagC_len]
theorem msgC_l35 (v : Msg) : (msgC v)[35]? = some (.int .u64 (v.body : Int)) := by
  have h := msgC_d35 v
  have h2 : ((msgC v).drop 35)[0]? = some (.int .u64 (v.body : Int)) := by rw [h]; rfl
  rwa [List.getElem?_drop] at h2
theorem msgC_a35 (v : Msg) : (msgC v).toArray[35]? = some (.int .u64 (v.body : Int)) := by
  rw [List.getElem?_toArray]; exact msgC_l35 v
theorem msgC_s35 (v : Msg) (x : Nat) : (msgC v).toArray.setIfInBounds 35 (.int .u64 (x : Int)) = (msgC { v with body := x }).toArray := by
  apply Array.toList_inj.1
  rw [Array.toList_setIfInBounds]
  show (msgC v).set 35 _ = msgC _
  unfold msgC
  simp [List.set_append, rootC_len, tagC_len]
theorem msgC_d36 (v : Msg) : (msgC v).drop 36 = [SlV.v v.bits] ++ (tagC v.tag) := by
  simp only [msgC, List.drop_append, List.length_append, rootC_len, tagC_len, List.length_singleton, List.length_cons, List.length_nil]
  have eroot : ∀ r : Root, (rootC r).drop 32 = [] := fun r => List.drop_eq_nil_of_le (by rw [rootC_len]; exact Nat.le_refl _)
  have etag : ∀ r : Tag, (tagC r).drop 16 = [] := fun r => List.drop_eq_nil_of_le (by rw [tagC_len]; exact Nat.le_refl _)
  simp [eroot, etag, List.drop_eq_nil_of_le, rootC_len, tagC_len]
theorem msgC_l36 (v : Msg) : (msgC v)[36]? = some (SlV.v v.bits) := by
  have h := msgC_d36 v
  have h2 : ((msgC v).drop 36)[0]? = some (SlV.v v.bits) := by rw [h]; rfl
  rwa [List.getElem?_drop] at h2
theorem msgC_a36 (v : Msg) : (msgC v).toArray[36]? = some (SlV.v v.bits) := by
  rw [List.getElem?_toArray]; exact msgC_l36 v
theorem msgC_s36 (v : Msg) (x : SlV) : (msgC v).toArray.setIfInBounds 36 (SlV.v x) = (msgC { v with bits := x }).toArray := by
  apply Array.toList_inj.1
  rw [Array.toList_setIfInBounds]
  show (msgC v).set 36 _ = msgC _
  unfold msgC
  simp [List.set_append, rootC_len, tagC_len]
theorem msgC_d37 (v : Msg) : (msgC v).drop 37 = tagC v.tag := by
  simp only [msgC, List.drop_append, List.length_append, rootC_len, tagC_len, List.length_singleton, List.length_cons, List.length_nil]
  have eroot : ∀ r : Root, (rootC r).drop 32 = [] := fun r => List.drop_eq_nil_of_le (by rw [rootC_len]; exact Nat.le_refl _)
  have etag : ∀ r : Tag, (tagC r).drop 16 = [] := fun r => List.drop_eq_nil_of_le (by rw [tagC_len]; exact Nat.le_refl _)
  simp [eroot, etag, List.drop_eq_nil_of_le, rootC_len, tagC_len]
theorem msgC_f37 (v : Msg) : ((msgC v).drop 37).take 16 = tagC v.tag := by
  rw [msgC_d37]
  exact tagC_take' _
theorem msgC_af37 (v : Msg) : ((msgC v).toArray.toList.drop 37).take 16 = tagC v.tag := msgC_f37 v
theorem msgC_p0 (v : Msg) (x : Int) : (msgC v).take 0 ++ ([.int .i64 x]) ++ (msgC v).drop 1 = msgC { v with kind := x } := by
  unfold msgC
  simp [List.take_append, List.drop_append, rootC_len, tagC_len, List.take_of_length_le, List.drop_eq_nil_of_le]
theorem msgC_b0 (v : Msg) (x : Int) (r : List (Nat × Value)) : fill2 [(0, 1), (1, 1), (2, 32), (34, 1), (35, 1), (36, 1), (37, 16)] (msgC v) ((0, .int .i64 x) :: r) = fill2 [(0, 1), (1, 1), (2, 32), (34, 1), (35, 1), (36, 1), (37, 16)] (msgC { v with kind := x }) r := congrArg (fun q => fill2 [(0, 1), (1, 1), (2, 32), (34, 1), (35, 1), (36, 1), (37, 16)] q r) (msgC_p0 v x)
theorem msgC_k0 (v : Msg) (x : Int) {r : List (Nat × Value)} (h : FillOk [(0, 1), (1, 1), (2, 32), (34, 1), (35, 1), (36, 1), (37, 16)] (msgC v).length r) : FillOk [(0, 1), (1, 1), (2, 32), (34, 1), (35, 1), (36, 1), (37, 16)] (msgC v).length ((0, .int .i64 x) :: r) := ⟨⟨by simp [Value.cells, ], by rw [msgC_len]; rfl⟩, h⟩
theorem msgC_p1 (v : Msg) (x : Int) : (msgC v).take 1 ++ ([.int .i64 x]) ++ (msgC v).drop 2 = msgC { v with slot := x } := by
  unfold msgC
  simp [List.take_append, List.drop_append, rootC_len, tagC_len, List.take_of_length_le, List.drop_eq_nil_of_le]
theorem msgC_b1 (v : Msg) (x : Int) (r : List (Nat × Value)) : fill2 [(0, 1), (1, 1), (2, 32), (34, 1), (35, 1), (36, 1), (37, 16)] (msgC v) ((1, .int .i64 x) :: r) = fill2 [(0, 1), (1, 1), (2, 32), (34, 1), (35, 1), (36, 1), (37, 16)] (msgC { v with slot := x }) r := congrArg (fun q => fill2 [(0, 1), (1, 1), (2, 32), (34, 1), (35, 1), (36, 1), (37, 16)] q r) (msgC_p1 v x)
theorem msgC_k1 (v : Msg) (x : Int) {r : List (Nat × Value)} (h : FillOk [(0, 1), (1, 1), (2, 32), (34, 1), (35, 1), (36, 1), (37, 16)] (msgC v).length r) : FillOk [(0, 1), (1, 1), (2, 32), (34, 1), (35, 1), (36, 1), (37, 16)] (msgC v).length ((1, .int .i64 x) :: r) := ⟨⟨by simp [Value.cells, ], by rw [msgC_len]; rfl⟩, h⟩
theorem msgC_p2 (v : Msg) (x : Root) : (msgC v).take 2 ++ (rootC x) ++ (msgC v).drop 34 = msgC { v with target := x } := by
  unfold msgC
  simp [List.take_append, List.drop_append, rootC_len, tagC_len, List.take_of_length_le, List.drop_eq_nil_of_le]
theorem msgC_b2 (v : Msg) (x : Root) (r : List (Nat × Value)) : fill2 [(0, 1), (1, 1), (2, 32), (34, 1), (35, 1), (36, 1), (37, 16)] (msgC v) ((2, .agg (rootC x).toArray) :: r) = fill2 [(0, 1), (1, 1), (2, 32), (34, 1), (35, 1), (36, 1), (37, 16)] (msgC { v with target := x }) r := congrArg (fun q => fill2 [(0, 1), (1, 1), (2, 32), (34, 1), (35, 1), (36, 1), (37, 16)] q r) (msgC_p2 v x)
theorem msgC_k2 (v : Msg) (x : Root) {r : List (Nat × Value)} (h : FillOk [(0, 1), (1, 1), (2, 32), (34, 1), (35, 1), (36, 1), (37, 16)] (msgC v).length r) : FillOk [(0, 1), (1, 1), (2, 32), (34, 1), (35, 1), (36, 1), (37, 16)] (msgC v).length ((2, .agg (rootC x).toArray) :: r) := ⟨⟨by simp [Value.cells, rootC_len], by rw [msgC_len]; rfl⟩, h⟩
theorem msgC_p34 (v : Msg) (x : Int) : (msgC v).take 34 ++ ([.int .i64 x]) ++ (msgC v).drop 35 = msgC { v with member := x } := by
  unfold msgC
  simp [List.take_append, List.drop_append, rootC_len, tagC_len, List.take_of_length_le, List.drop_eq_nil_of_le]
theorem msgC_b3 (v : Msg) (x : Int) (r : List (Nat × Value)) : fill2 [(0, 1), (1, 1), (2, 32), (34, 1), (35, 1), (36, 1), (37, 16)] (msgC v) ((3, .int .i64 x) :: r) = fill2 [(0, 1), (1, 1), (2, 32), (34, 1), (35, 1), (36, 1), (37, 16)] (msgC { v with member := x }) r := congrArg (fun q => fill2 [(0, 1), (1, 1), (2, 32), (34, 1), (35, 1), (36, 1), (37, 16)] q r) (msgC_p34 v x)
theorem msgC_k3 (v : Msg) (x : Int) {r : List (Nat × Value)} (h : FillOk [(0, 1), (1, 1), (2, 32), (34, 1), (35, 1), (36, 1), (37, 16)] (msgC v).length r) : FillOk [(0, 1), (1, 1), (2, 32), (34, 1), (35, 1), (36, 1), (37, 16)] (msgC v).length ((3, .int .i64 x) :: r) := ⟨⟨by simp [Value.cells, ], by rw [msgC_len]; rfl⟩, h⟩
theorem msgC_p35 (v : Msg) (x : Nat) : (msgC v).take 35 ++ ([.int .u64 (x : Int)]) ++ (msgC v).drop 36 = msgC { v with body := x } := by
  unfold msgC
  simp [List.take_append, List.drop_append, rootC_len, tagC_len, List.take_of_length_le, List.drop_eq_nil_of_le]
theorem msgC_b4 (v : Msg) (x : Nat) (r : List (Nat × Value)) : fill2 [(0, 1), (1, 1), (2, 32), (34, 1), (35, 1), (36, 1), (37, 16)] (msgC v) ((4, .int .u64 (x : Int)) :: r) = fill2 [(0, 1), (1, 1), (2, 32), (34, 1), (35, 1), (36, 1), (37, 16)] (msgC { v with body := x }) r := congrArg (fun q => fill2 [(0, 1), (1, 1), (2, 32), (34, 1), (35, 1), (36, 1), (37, 16)] q r) (msgC_p35 v x)
theorem msgC_k4 (v : Msg) (x : Nat) {r : List (Nat × Value)} (h : FillOk [(0, 1), (1, 1), (2, 32), (34, 1), (35, 1), (36, 1), (37, 16)] (msgC v).length r) : FillOk [(0, 1), (1, 1), (2, 32), (34, 1), (35, 1), (36, 1), (37, 16)] (msgC v).length ((4, .int .u64 (x : Int)) :: r) := ⟨⟨by simp [Value.cells, ], by rw [msgC_len]; rfl⟩, h⟩
theorem msgC_p36 (v : Msg) (x : SlV) : (msgC v).take 36 ++ ([SlV.v x]) ++ (msgC v).drop 37 = msgC { v with bits := x } := by
  unfold msgC
  simp [List.take_append, List.drop_append, rootC_len, tagC_len, List.take_of_length_le, List.drop_eq_nil_of_le]
theorem msgC_b5 (v : Msg) (x : SlV) (r : List (Nat × Value)) : fill2 [(0, 1), (1, 1), (2, 32), (34, 1), (35, 1), (36, 1), (37, 16)] (msgC v) ((5, SlV.v x) :: r) = fill2 [(0, 1), (1, 1), (2, 32), (34, 1), (35, 1), (36, 1), (37, 16)] (msgC { v with bits := x }) r := congrArg (fun q => fill2 [(0, 1), (1, 1), (2, 32), (34, 1), (35, 1), (36, 1), (37, 16)] q r) (msgC_p36 v x)
theorem msgC_k5 (v : Msg) (x : SlV) {r : List (Nat × Value)} (h : FillOk [(0, 1), (1, 1), (2, 32), (34, 1), (35, 1), (36, 1), (37, 16)] (msgC v).length r) : FillOk [(0, 1), (1, 1), (2, 32), (34, 1), (35, 1), (36, 1), (37, 16)] (msgC v).length ((5, SlV.v x) :: r) := ⟨⟨by simp [Value.cells, ], by rw [msgC_len]; rfl⟩, h⟩
theorem msgC_p37 (v : Msg) (x : Tag) : (msgC v).take 37 ++ (tagC x) ++ (msgC v).drop 53 = msgC { v with tag := x } := by
  unfold msgC
  simp [List.take_append, List.drop_append, rootC_len, tagC_len, List.take_of_length_le, List.drop_eq_nil_of_le]
theorem msgC_b6 (v : Msg) (x : Tag) (r : List (Nat × Value)) : fill2 [(0, 1), (1, 1), (2, 32), (34, 1), (35, 1), (36, 1), (37, 16)] (msgC v) ((6, .agg (tagC x).toArray) :: r) = fill2 [(0, 1), (1, 1), (2, 32), (34, 1), (35, 1), (36, 1), (37, 16)] (msgC { v with tag := x }) r := congrArg (fun q => fill2 [(0, 1), (1, 1), (2, 32), (34, 1), (35, 1), (36, 1), (37, 16)] q r) (msgC_p37 v x)
theorem msgC_k6 (v : Msg) (x : Tag) {r : List (Nat × Value)} (h : FillOk [(0, 1), (1, 1), (2, 32), (34, 1), (35, 1), (36, 1), (37, 16)] (msgC v).length r) : FillOk [(0, 1), (1, 1), (2, 32), (34, 1), (35, 1), (36, 1), (37, 16)] (msgC v).length ((6, .agg (tagC x).toArray) :: r) := ⟨⟨by simp [Value.cells, tagC_len], by rw [msgC_len]; rfl⟩, h⟩
end Go.SL

set_option linter.unusedVariables false
set_option linter.unusedSimpArgs false
namespace Go.SL
/-! ### Arrays of bytes, of any length -/
def bC (bs : List UInt8) : List Value := bs.map fun b => .int .u8 (b.toNat : Int)
theorem bC_len (bs : List UInt8) : (bC bs).length = bs.length := by simp [bC]
theorem bC_one (bs : List UInt8) : ∀ v ∈ bC bs, v.oneCell' = true := fun v hv => by
  obtain ⟨b, _, rfl⟩ := List.mem_map.1 hv
  rfl
theorem bC_gd {bs : List UInt8} {j : Nat} (h : j < bs.length) : (bC bs).toArray[j]? = some (.int .u8 ((bs.getD j 0).toNat : Int)) := by
  simp [bC, List.getD_eq_getElem?_getD, h]
theorem bC_set (bs : List UInt8) (j : Nat) (u : UInt8) : (bC bs).toArray.setIfInBounds j (.int .u8 (u.toNat : Int)) = (bC (bs.set j u)).toArray := by
  apply Array.toList_inj.1
  rw [Array.toList_setIfInBounds]
  show (bC bs).set j _ = bC _
  simp [bC, List.map_set]
theorem bC_flat (bs : List UInt8) : encU8.flat bs = bC bs := encU8_flat bs
theorem rds_blk {w0 : World} {l : List HProp} {α : Type} {E : Enc α} {xs : List α} (i : Nat) {b o : Nat} {cs : Array Value} {t : TypeId} {fr : Nat × Nat} (hl : l[i]? = some (Blk b (.cells cs t fr))) (h : ∀ j u, (E.flat xs)[j]? = some u → cs[o + j]? = some u) : Rds w0 l E (some ⟨b, o, none⟩) xs := fun M w s => by
  obtain ⟨m, s'⟩ := s.front i hl
  refine ⟨fun h => (by cases h), fun ad ha j u hu => ?_⟩
  cases ha
  have hadd : (⟨b, o, none⟩ : Addr).add j = ⟨b, o + j, none⟩ := by unfold Addr.add; split <;> simp_all
  rw [hadd, cell_of_row w b (o + j) cs t fr s'.blk]
  exact h j u hu
theorem rds_bytes {w0 : World} {l : List HProp} (i : Nat) {b : Nat} {bs : List UInt8} {t : TypeId} {fr : Nat × Nat} (hl : l[i]? = some (Blk b (.cells (bC bs).toArray t fr))) : Rds w0 l encU8 (some ⟨b, 0, none⟩) bs :=
  rds_blk i hl fun j u hu => by
    rw [bC_flat] at hu
    rw [Nat.zero_add, List.getElem?_toArray]
    exact hu
theorem rds_root {w0 : World} {l : List HProp} (i : Nat) {b : Nat} {r : Root} {t : TypeId} {fr : Nat × Nat} (hl : l[i]? = some (Blk b (.cells (rootC r).toArray t fr))) : Rds w0 l encU8 (some ⟨b, 0, none⟩) r.1 := rds_bytes (bs := r.1) i hl
theorem rds_rootk {w0 : World} {l : List HProp} (i : Nat) {b : Nat} {r : Root} {t : TypeId} {fr : Nat × Nat} (k : Nat) (hl : l[i]? = some (Blk b (.cells (rootC r).toArray t fr))) : Rds w0 l encU8 (some ⟨b, 0, none⟩) (r.1.take k) := (rds_root i hl).take k
theorem root_len (r : Root) : r.1.length = 32 := r.2
theorem rootC_gd (r : Root) {i : Nat} (h : i < 32) : (rootC r).toArray[i]? = some (.int .u8 ((r.1.getD i 0).toNat : Int)) := bC_gd (bs := r.1) (by rw [r.2]; exact h)
theorem tag_len (r : Tag) : r.1.length = 16 := r.2
theorem tagC_gd (t : Tag) {j : Nat} (h : j < 16) : (tagC t).toArray[j]? = some (.int .u8 ((t.1.getD j 0).toNat : Int)) := bC_gd (bs := t.1) (by rw [t.2]; exact h)
theorem rds_tag {w0 : World} {l : List HProp} (i : Nat) {b : Nat} {r : Tag} {t : TypeId} {fr : Nat × Nat} (hl : l[i]? = some (Blk b (.cells (tagC r).toArray t fr))) : Rds w0 l encU8 (some ⟨b, 0, none⟩) r.1 := rds_bytes (bs := r.1) i hl
def encTag : Enc Tag := ⟨tagC, 16, tagC_len, tagC_one, by omega⟩
/-! equality of arrays of bytes -/
def bytesB (P : Program) (T N : Nat) : Bool := match P.underlying T with
  | some (.array m e) => u8B P e && (m == N) && (P.cellsOf e == 1) && (P.cellsOf T == N) && (P.info? e).isSome && !(P.eqGuardType P.depth T)
  | _ => false
theorem bytesB_spec {P : Program} {T N : Nat} (h : bytesB P T N = true) : ∃ e q, P.underlying T = some (.array N e) ∧ P.underlying e = some (.int .u8) ∧ P.cellsOf e = 1 ∧ P.cellsOf T = N ∧ P.info? e = some q ∧ P.eqGuardType P.depth T = false := by
  unfold bytesB at h
  split at h
  · rename_i m e hu
    simp only [Bool.and_eq_true, beq_iff_eq, Bool.not_eq_true', Option.isSome_iff_exists] at h
    obtain ⟨⟨⟨⟨⟨h1, rfl⟩, h2⟩, h3⟩, q, h4⟩, h5⟩ := h
    unfold u8B at h1
    split at h1
    · exact ⟨e, q, hu, by assumption, h2, h3, h4, h5⟩
    · cases h1
  · cases h
theorem bC_get (bs : List UInt8) (i : Nat) (h : i < bs.length) : ((bC bs).drop i).take 1 = [.int .u8 ((bs.getD i 0).toNat : Int)] := by
  unfold bC
  rw [← List.map_drop, List.drop_eq_getElem_cons h]
  rw [List.map_cons, List.take_succ_cons, List.take_zero]
  simp only [List.getD_eq_getElem?_getD, List.getElem?_eq_getElem h, Option.getD_some]
theorem run_equalIn_bytes {P : Program} {T N : Nat} (dd : Nat) (hT : bytesB P T N = true) (a b : List UInt8) (ha : a.length = N) (hb : b.length = N) (w : World) : (Op.equalIn (dd + 2) T (.agg (bC a).toArray) (.agg (bC b).toArray)).run P w = .ok (decide (a = b)) w := by
  obtain ⟨e, q, hu, he, hc, hcT, hi, hg⟩ := bytesB_spec hT
  have hpk : P.plainKey e = true := by unfold Program.plainKey; rw [he]
  have key : ∀ r : List UInt8, r.length = N → (List.range N).mapM (fun i => P.keyLits 1 e (((bC r).toArray.toList.drop (i * P.cellsOf e)).take (P.cellsOf e))) = some ((List.range N).map fun i => [Lit.int .u8 ((r.getD i 0).toNat : Int)]) := fun r hrl => by
    refine mapM_all _ _ _ fun i hi' => ?_
    have hlt : i < N := by simpa using hi'
    rw [hc, Nat.mul_one]
    simp only [List.toList_toArray]
    rw [bC_get r i (by omega)]
    generalize r.getD i 0 = u
    have hb := u.toNat_lt
    unfold Program.keyLits
    rw [he]
    simp only [Lit.wf, IntKind.min, IntKind.max, IntKind.signed, IntKind.bits]
    rw [if_pos]
    refine ⟨trivial, ?_⟩
    simp
    omega
  obtain ⟨r, hr, hiff⟩ := run_eqItems_plain (P := P) w dd hpk (bC a).toArray (bC b).toArray (List.range N) _ _ (key a ha) (key b hb)
  have h1 : (Op.equalIn (dd + 2) T (.agg (bC a).toArray) (.agg (bC b).toArray)).run P w = (Op.eqItems (dd + 1) e (P.cellsOf e) (bC a).toArray (bC b).toArray (List.range N)).run P w := run_equalIn_array w (dd + 1) _ _ hu hi
  rw [h1, hr]
  congr 1
  rw [Bool.eq_iff_iff, hiff, decide_eq_true_iff]
  constructor
  · intro h
    apply List.ext_getElem
    · rw [ha, hb]
    · intro i h2 h3
      have hi2 : i < N := by omega
      have h4 := congrArg (fun l : List Lit => l[i]?) h
      have hfl : ∀ g : Nat → Lit, ((List.range N).map fun i => [g i]).flatten = (List.range N).map g := fun g => by
        generalize List.range N = l
        induction l with
        | nil => rfl
        | cons u l ih => rw [List.map_cons, List.flatten_cons, ih]; rfl
      simp only [hfl] at h4
      simp [hi2, List.getD_eq_getElem?_getD, h2, h3] at h4
      exact UInt8.toNat_inj.1 (by omega)
  · intro h
    subst h
    rfl
section
variable {P : Program} {w0 w : World} {n : Nat} {f : Fr} {l l' : List HProp} {d : Option Tmp} {ty : TypeId} {pos : String} {aft : Array Edge} {g : Option (Nat × Bool)} {x y z : Operand} {T T' : TypeId} {v : Value}
theorem tag_eq (a b : Tag) : decide (a = b) = decide (a.1 = b.1) := decide_eq_decide.2 ⟨fun h => by rw [h], fun h => Subtype.ext h⟩
theorem op_eqtag (a b : Tag) (hT : bytesB P T 16 = true) (hx : ev f x = .agg (tagC a).toArray) (hy : ev f y = .agg (tagC b).toArray) : OP P w0 n ⟨d, .binOp .eql T x y T', ty, pos, aft, g⟩ f l (.bool (decide (a = b))) := fun M A w r s => by
  obtain ⟨e, q, hu, he, hc, hcT, hi, hg⟩ := bytesB_spec hT
  have h1 : (eqGuard .eql T x y (.agg (tagC a).toArray) (.agg (tagC b).toArray)).run P w = .ok () w := by
    simp [eqGuard, hg]
  have h2 : (Op.equal T (.agg (tagC a).toArray) (.agg (tagC b).toArray)).run P w = .ok (decide (a = b)) w := by
    rw [tag_eq]
    exact run_equalIn_bytes 9998 hT a.1 b.1 a.2 b.2 w
  simp [execOp, r.eval, hx, hy, h1, binOp, h2]
theorem op_xor8 (X Y : UInt8) (hx : ev f x = .int .u8 (X.toNat : Int)) (hy : ev f y = .int .u8 (Y.toNat : Int)) : OP P w0 n ⟨d, .binOp .xor T x y T', ty, pos, aft, g⟩ f l (.int .u8 ((X ^^^ Y).toNat : Int)) := fun M a w r s => by
  simp only [execOp, r.eval, hx, hy, binOp]
  simp [eqGuard_int, Op.intBits]
  show IntKind.u8.wrap ((X.toNat % 256 ^^^ Y.toNat % 256 : Nat) : Int) = _
  rw [mod_u8, mod_u8, wrap_u8_nat]
  congr 1
  rw [← UInt8.toNat_xor, UInt8.ofNat_toNat]
/-- copy of a text onto an array of bytes -/
theorem os_copys {as : Array TypeId} {b n1 c1 : Nat} {xs : List UInt8} {t : TypeId} {fr : Nat × Nat} (ys : List UInt8) (S U : TypeId) (hS : as[0]? = some S) (hT : slice1B P S = true) (hx : ev f x = .slice (some ⟨b, 0, none⟩) n1 c1) (hy : ev f y = .string (B ys))
    (h1 : n1 ≤ xs.length) (hf : Free xs.length fr) :
    OS P w0 n ⟨d, .call ⟨.builtin .copy, #[x, y], as⟩, ty, pos, aft, g⟩ f (Blk b (.cells (bC xs).toArray t fr) :: l) (fun v l' => v = .int .i64 ((min ys.length n1 : Nat) : Int) ∧ l' = Blk b (.cells (bC (ys.take (min ys.length n1) ++ xs.drop (min ys.length n1))).toArray t fr) :: l) := fun a w r s => by
  unfold slice1B at hT
  split at hT
  · rename_i e hu
    split at hT
    · rename_i i hi
      have hs : i.size = 1 := by simpa using hT
      have hk : (bC (ys.take (min ys.length n1))).length = min ys.length n1 := by rw [bC_len, List.length_take]; omega
      have hst := run_storeCells_row P b 0 t fr (bC (ys.take (min ys.length n1))) 0 (bC xs).toArray w s.blk (by rw [hk, List.size_toArray, bC_len]; omega) (bC_one _) (by rw [List.size_toArray, bC_len]; exact hf)
      rw [hk] at hst
      simp only [Nat.add_zero, Nat.zero_add, List.take_zero, List.nil_append] at hst
      have hcs : (bC (ys.take (min ys.length n1)) ++ (bC xs).drop (min ys.length n1)) = bC (ys.take (min ys.length n1) ++ xs.drop (min ys.length n1)) := by simp [bC, List.map_drop]
      have hfc : (Builtin.firstCells 1 (min ys.length n1) (.string (B ys))).run P w = .ok (bC (ys.take (min ys.length n1))).toArray w := by
        simp [Builtin.firstCells, bC, B]
      have hb : (Builtin.copy_ as ty #[.slice (some ⟨b, 0, none⟩) n1 c1, .string (B ys)]).run P w = .ok (.int .i64 ((min ys.length n1 : Nat) : Int)) (w.setRow b (bC (ys.take (min ys.length n1) ++ xs.drop (min ys.length n1))).toArray) := by
        simp only [Builtin.copy_, hS]
        simp [run_underlying hu, Builtin.lenOf, sizeOf, typeInfo, hi, hs, B_size]
        rw [show Nat.min ys.length n1 = min ys.length n1 from rfl, hfc]
        simp
        simp only [hcs] at hst
        rw [hst]
        simp [goInt]
      have : (execOp a.eval ⟨d, .call ⟨.builtin .copy, #[x, y], as⟩, ty, pos, aft, g⟩).run P w = .ok (.value (.int .i64 ((min ys.length n1 : Nat) : Int))) (w.setRow b (bC (ys.take (min ys.length n1) ++ xs.drop (min ys.length n1))).toArray) := by
        have hax : a.eval x = ev f x := r.eval x
        have hay : a.eval y = ev f y := r.eval y
        simp [execOp, resolve, invoke, builtin, hax, hay, hx, hy, hb]
      rw [this]
      exact ⟨_, ⟨rfl, rfl⟩, s.setRow⟩
    · cases hT
  · cases hT
/-- [16]byte(s): where a slice's first cells lie -/
def s2apB (P : Program) (T : Nat) : Option Nat := match P.underlying T with
  | some (.array n _) => some n
  | _ => none
theorem op_s2ap {N m c : Nat} {ao : Option Addr} (hT : s2apB P T = some N) (hx : ev f x = .slice ao m c) (hm : N ≤ m) : OP P w0 n ⟨d, .sliceToArrayPointer T x, ty, pos, aft, g⟩ f l (.pointer ao) := fun M a w r s => by
  unfold s2apB at hT
  split at hT
  · rename_i k e hu
    obtain rfl := Option.some.inj hT
    have : ¬ m < k := by omega
    simp [execOp, r.eval, hx, Instr.arrayAt, run_underlying hu, this]
  · cases hT
end
section
open Go.WideShapes
variable {H : Type} {enc : TypeId × Value → H} {P : Program} {W : World} {t e : TypeId} {r : Reach} {b0 : Nat} {v : Value} {d : DataW H} {ps : List MemPlace}
theorem opens_tag (hB : bytesB P t 16 = true) : Opens enc P W t (fun cs => ∃ r : Tag, cs = tagC r ∧ True) := fun fuel cs x h => by
  obtain ⟨e, q, hu, he, hc, hcT, hi, hg⟩ := bytesB_spec hB
  obtain ⟨xs, n, hn, hx, hl, hlen, hf⟩ := DataW.trod_array hu h
  rw [hcT] at hl
  have hcell : ∀ i, i < 16 → ∃ b : UInt8, cs[i]? = some (.int .u8 (b.toNat : Int)) := fun i hi => by
    have hi' : i < xs.length := by rw [hlen]; exact hi
    have h1 := hf i hi
    rw [hc, Nat.mul_one, List.getElem?_eq_getElem hi'] at h1
    obtain ⟨m, h2, _, hw⟩ := DataW.trod_int he h1
    obtain ⟨b, rfl⟩ := wf_u8 hw
    refine ⟨b, ?_⟩
    have h3 : ((cs.drop i).take 1)[0]? = some (.int .u8 (b.toNat : Int)) := by rw [h2]; rfl
    rwa [List.getElem?_take_of_lt (by omega), List.getElem?_drop] at h3
  let f : Fin 16 → UInt8 := fun i => Classical.choose (hcell i.1 i.2)
  have hf' : ∀ i : Fin 16, cs[i.1]? = some (.int .u8 ((f i).toNat : Int)) := fun i => Classical.choose_spec (hcell i.1 i.2)
  refine ⟨⟨List.ofFn f, by simp⟩, ?_, trivial⟩
  unfold tagC
  apply List.ext_getElem?
  intro i
  by_cases hi : i < 16
  · rw [hf' ⟨i, hi⟩]
    rw [List.getElem?_map, List.getElem?_ofFn]
    simp [hi]
  · rw [List.getElem?_eq_none (by omega), List.getElem?_eq_none (by simp; omega)]
theorem open_tag (hB : bytesB P t 16 = true) (hval : Value.okWide P W r b0 t v) (hd : DataW.Trod enc P W 0 (fun _ => true) true t v d ps) : ∃ r : Tag, v = .agg (tagC r).toArray := by
  obtain ⟨e, q, hu, he, hc, hcT, hi, hg⟩ := bytesB_spec hB
  have hv : ∃ cs, v = .agg cs := by
    unfold Value.okWide at hval
    rw [hu] at hval
    obtain ⟨cs, h, _⟩ := hval
    exact ⟨cs, h⟩
  obtain ⟨cs, rfl⟩ := hv
  obtain ⟨r, hr, _⟩ := open_cells (opens_tag hB) hd
  refine ⟨r, ?_⟩
  have : cs.toList = tagC r := hr
  rw [← this]
end
theorem tagC_ta (t : Tag) : ((tagC t).drop 0).take 16 = tagC t := tagC_take' t
section
variable {P : Program} {w0 w : World} {n : Nat} {f : Fr} {l l' : List HProp} {d : Option Tmp} {ty : TypeId} {pos : String} {aft : Array Edge} {g : Option (Nat × Bool)} {x y z : Operand} {T T' : TypeId} {v : Value}
theorem op_buildt {parts : Array (Nat × Operand)} (hp : parts = #[]) (hB : bytesB P T 16 = true) (hz : zeroB P T = some (.agg (tagC Tag.zero).toArray)) : OP P w0 n ⟨d, .build T parts, ty, pos, aft, g⟩ f l (.agg (tagC Tag.zero).toArray) := fun M a w r s => by
  obtain ⟨e, q, hu, he, hc, hcT, hi, hg⟩ := bytesB_spec hB
  subst hp
  obtain ⟨q2, hq, hq2⟩ := Option.bind_eq_some_iff.1 hz
  have hzr : (zeroValue T).run P w = .ok (.agg (tagC Tag.zero).toArray) w := by simp [zeroValue, typeInfo, hq, hq2]
  have hs : (sizeOf e).run P w = .ok q.size w := by simp [sizeOf, typeInfo, hi]
  simp [execOp, Instr.build, hzr, run_underlying hu, hs, Instr.fill, Value.cells]
end
end Go.SL

set_option linter.unusedVariables false
set_option linter.unusedSimpArgs false
namespace Go.SL
open Go.RowKit Go.ChangeShapes Go.WideShapes
/-! ### A row whose walk is told the form's own reach -/
section
variable {H : Type} {enc : TypeId × Value → H}
theorem law_liftedZ {C : Checked} {os : Os} {fid : FuncId} {fn : Func} {s : ChangeSpec} {conds : List PathCond} {tb : TypeId} (own : ownKnob C.prog.godebug = none) (started : os.Started) (noInit : C.prog.inits.idxOf? fid = none) (hfn : C.prog.funcs[fid]? = some fn)
    (witness : ∃ (w : World) (tape : Tape) (i : Input), w.os = os ∧ (w.forCall tape i).Shaped C.prog ∧ i.vars = [] ∧ Input.okWide C.prog (w.forCall tape i) .any w.heap.size fid i ∧
      s.pre6 enc C.prog fn conds false (w.forCall tape i).memory i.args ∧ ({} : Assume).holds C.prog (lone (Frame.enter C.prog fid i.args .normal) [] (w.forCall tape i)))
    (hl : laidOutB C.prog = true) (hts : ∀ t ∈ fn.params.toList, C.prog.readableRec t = true ∧ t < C.prog.types.size) (hvars : s.vars = []) (hres : fn.resultTypes = #[tb]) (hu : C.prog.underlying tb = some .bool)
    (hs : ∀ ds : List (DataW H), ds.length = fn.params.toList.length → s.fn H (ds ++ []) = { results := [.lit (.bool true)], args := ds })
    (walk : ∀ (W : World) (base : Nat) (args : Array Value) (ds : List (DataW H)) (p : List MemPlace), (∀ (j : Nat) t v, fn.params[j]? = some t → args[j]? = some v → Value.okWide C.prog W .any base t v) →
      DataW.TrodAll enc C.prog W 0 (fun _ => true) true fn.params.toList args.toList ds p → (DataW.weightsEach C.prog (fn.params.toList ++ s.plain.varTypes C.prog) (ds ++ [])).all (· ≤ reachBytes) = true →
      Calls C.prog fid args W (Ret W fun v l' => v = .bool true ∧ l' = [Old W []])) :
    ReturnsInHanded {} C os fid .any (s.pre6 enc C.prog fn conds false) (s.post enc C.prog fn false true false false) := by
  refine returnsInHanded_of_change_sized own started noInit hfn witness ?_
  intro W base args ds gs before hval hW _ hsz _
  have hW' := hW
  obtain ⟨p, q, hA, hV, hbf, hfz, hnd⟩ := hW
  rw [hvars] at hV
  obtain ⟨rfl, rfl⟩ := trodVars_none hV
  refine (walk W base args ds p hval hA hsz).mono fun e W' hq => ?_
  obtain ⟨v, l', rfl, ⟨rfl, rfl⟩, st⟩ := hq
  have hb : Below W.heap.size W W' := st.below
  refine ⟨_, rfl, ?_⟩
  have hlt : ∀ x ∈ p, x.block < W.heap.size := hA.lt
  have hlen := (trodAll_length hA).2
  refine ⟨ds, [], before, [], p, [], hW', ?_, ?_, ?_, ?_, fun h => by cases h⟩
  · rw [hs ds hlen, hres]
    exact trodAll_cons_mk (shut_bool hu _) trodAll_mk0
  · rw [hs ds hlen]
    exact stays_all hl hb hts hA hlt (fun x hx => by simpa using hlt x hx)
  · rw [hs ds hlen, hvars]
    trivial
  · exact hb.frame _
end
section
variable {H : Type} {enc : TypeId × Value → H} {P : Program} {W : World} {t e : TypeId} {r : Reach} {b0 : Nat} {v : Value} {d : DataW H} {ps : List MemPlace}
theorem open_textZ (ht : P.underlying t = some .string) (hval : Value.okWide P W r b0 t v) (hd : DataW.Trod enc P W 0 (fun _ => true) true t v d ps) : ∃ s : List UInt8, v = .string (B s) ∧ d = .lit (.string s) := by
  obtain ⟨s, rfl⟩ := okWide_string ht hval
  obtain ⟨fuel, hf⟩ := hd
  obtain ⟨s', h1, h2, h3⟩ := DataW.trod_string ht hf
  simp [Value.cells] at h1
  simp only [Prod.mk.injEq] at h2
  refine ⟨s'.data.toList, by rw [h1, B_data], h2.1⟩
theorem reach_lt : reachBytes < 140737488355328 := by decide
end
end Go.SL

set_option linter.unusedVariables false
set_option linter.unusedSimpArgs false
namespace Go.SL
/-! ### Words of 64 bits that wrap -/
section
variable {P : Program} {w0 w : World} {n : Nat} {f : Fr} {l l' : List HProp} {d : Option Tmp} {ty : TypeId} {pos : String} {aft : Array Edge} {g : Option (Nat × Bool)} {x y z : Operand} {T T' : TypeId} {v : Value} {A C : Nat}
theorem op_addw64 (hx : ev f x = .int .u64 (A : Int)) (hy : ev f y = .int .u64 (C : Int)) : OP P w0 n ⟨d, .binOp .add T x y T', ty, pos, aft, g⟩ f l (.int .u64 (((A + C) % 18446744073709551616 : Nat) : Int)) := by
  have := op_addw (P := P) (w0 := w0) (n := n) (l := l) (d := d) (ty := ty) (pos := pos) (aft := aft) (g := g) (T := T) (T' := T') hx hy
  rwa [← Int.natCast_add, wrap_u64_nat] at this
theorem op_mulw64 (hx : ev f x = .int .u64 (A : Int)) (hy : ev f y = .int .u64 (C : Int)) : OP P w0 n ⟨d, .binOp .mul T x y T', ty, pos, aft, g⟩ f l (.int .u64 (((A * C) % 18446744073709551616 : Nat) : Int)) := by
  have := op_mulw (P := P) (w0 := w0) (n := n) (l := l) (d := d) (ty := ty) (pos := pos) (aft := aft) (g := g) (T := T) (T' := T') hx hy
  rwa [← Int.natCast_mul, wrap_u64_nat] at this
theorem op_shlw64 {m : Nat} {k' : IntKind} (hx : ev f x = .int .u64 (A : Int)) (hy : ev f y = .int k' (m : Int)) (hm : m ≤ 64) : OP P w0 n ⟨d, .binOp .shl T x y T', ty, pos, aft, g⟩ f l (.int .u64 (((A * 2 ^ m) % 18446744073709551616 : Nat) : Int)) := fun M a w r s => by
  have h1 : ¬ ((m : Int) < 0) := by omega
  have h2 : min m IntKind.u64.bits = m := Nat.min_eq_left hm
  have h3 : IntKind.u64.wrap ((A : Int) * 2 ^ m) = (((A * 2 ^ m) % 18446744073709551616 : Nat) : Int) := by
    rw [← wrap_u64_nat]; simp
  simp [execOp, r.eval, hx, hy, eqGuard_int, binOp, Op.shift, h1, h2, h3]
theorem op_andlo (hx : ev f x = .int .u64 (A : Int)) (hA : A < 18446744073709551616) (hy : ev f y = .int .u64 4294967295) : OP P w0 n ⟨d, .binOp .and T x y T', ty, pos, aft, g⟩ f l (.int .u64 ((A % 4294967296 : Nat) : Int)) := fun M a w r s => by
  simp only [execOp, r.eval, hx, hy, binOp]
  simp [eqGuard_int, Op.intBits]
  show IntKind.u64.wrap ((A % 18446744073709551616 &&& 4294967295 : Nat) : Int) = _
  rw [Nat.mod_eq_of_lt hA, show (4294967295 : Nat) = 2 ^ 32 - 1 from rfl, Nat.and_two_pow_sub_one_eq_mod]
  have h : A % 2 ^ 32 < 4294967296 := Nat.mod_lt _ (by decide)
  rw [wrap_u64 (by omega) (by omega)]
  rfl
theorem op_conv64m {a : Int} (m : Nat) (hu : P.underlying T' = some (.int .u64)) (hT : (P.underlying T).isSome = true) {k : IntKind} (hx : ev f x = .int k a) (ha : a = (m : Int)) (hm : m < 18446744073709551616) : OP P w0 n ⟨d, .convert T T' x, ty, pos, aft, g⟩ f l (.int .u64 (m : Int)) := by
  subst ha
  exact op_conv64 hu hT hx hm
theorem op_mul32 (X Y : UInt32) (hx : ev f x = .int .u32 (X.toNat : Int)) (hy : ev f y = .int .u32 (Y.toNat : Int)) : OP P w0 n ⟨d, .binOp .mul T x y T', ty, pos, aft, g⟩ f l (.int .u32 ((X * Y).toNat : Int)) := by
  have := op_mulw (P := P) (w0 := w0) (n := n) (l := l) (d := d) (ty := ty) (pos := pos) (aft := aft) (g := g) (T := T) (T' := T') hx hy
  rw [← Int.natCast_mul, wrap_u32_of, UInt32.ofNat_mul, UInt32.ofNat_toNat, UInt32.ofNat_toNat] at this
  exact this
theorem op_quo8 (hx : ev f x = .int .u8 (A : Int)) (hy : ev f y = .int .u8 (C : Int)) (h : 0 < C) (hA : A < 256) : OP P w0 n ⟨d, .binOp .quo T x y T', ty, pos, aft, g⟩ f l (.int .u8 ((A / C : Nat) : Int)) := by
  have := op_quow (P := P) (w0 := w0) (n := n) (l := l) (d := d) (ty := ty) (pos := pos) (aft := aft) (g := g) (T := T) (T' := T') hx hy (by omega)
  have h2 : A / C ≤ A := Nat.div_le_self _ _
  have e : (A : Int).tdiv (C : Int) = ((A / C : Nat) : Int) := by rw [Int.tdiv_eq_ediv_of_nonneg (by omega)]; rfl
  rw [e, wrap_u8_nat] at this
  simp only [UInt8.toNat_ofNat'] at this
  rwa [Nat.mod_eq_of_lt (by omega)] at this
theorem op_add8n (hx : ev f x = .int .u8 (A : Int)) (hy : ev f y = .int .u8 (C : Int)) (h : A + C < 256) : OP P w0 n ⟨d, .binOp .add T x y T', ty, pos, aft, g⟩ f l (.int .u8 ((A + C : Nat) : Int)) := by
  have := op_addw (P := P) (w0 := w0) (n := n) (l := l) (d := d) (ty := ty) (pos := pos) (aft := aft) (g := g) (T := T) (T' := T') hx hy
  rw [← Int.natCast_add, wrap_u8_nat] at this
  simp only [UInt8.toNat_ofNat'] at this
  rwa [Nat.mod_eq_of_lt (by omega)] at this
/-- math/bits.Add64, which has no body -/
theorem op_add64x {k : Nat} {fn : Func} {as : Array TypeId} (hf : P.funcs[k]? = some fn) (hname : (fn.name == "runtime.NumGoroutine") = false) (hb : fn.body.isNone = true) (hn : Extern.findNext fn = none) (he : Extern.find fn = some add64Entry)
    (hx : ev f x = .int .u64 (A : Int)) (hy : ev f y = .int .u64 (C : Int)) (hz : ev f z = .int .u64 0) : OP P w0 n ⟨d, .call ⟨.value (.func k), #[x, y, z], as⟩, ty, pos, aft, g⟩ f l (.tuple #[.int .u64 (((A + C) % 18446744073709551616 : Nat) : Int), .int .u64 (((A + C) / 18446744073709551616 : Nat) : Int)]) := fun M a w r s => by
  have hr := run_callFunc_extern (P := P) hf hname hb hn he #[.int .u64 (A : Int), .int .u64 (C : Int), .int .u64 0] w
  rw [run_add64 (P := P) (A : Int) (C : Int) 0 (by omega) (by omega) (by omega) (by omega) w] at hr
  have hax : a.eval x = .int .u64 (A : Int) := (r.eval x).trans hx
  have hay : a.eval y = .int .u64 (C : Int) := (r.eval y).trans hy
  have haz : a.eval z = .int .u64 0 := (r.eval z).trans hz
  have hfu : a.eval (.func k) = .func (.func k) #[] #[] := rfl
  simp [execOp, resolve, Deferred.ofValue, invoke, hfu, hax, hay, haz, hr]
end
end Go.SL

set_option linter.unusedVariables false
set_option linter.unusedSimpArgs false
namespace Go.SL
/-! ### Names and tags within a record -/
theorem rds_fld {w0 : World} {l : List HProp} (i o n : Nat) {b : Nat} {cs : Array Value} {t : TypeId} {fr : Nat × Nat} {bs : List UInt8} (hl : l[i]? = some (Blk b (.cells cs t fr))) (h : (cs.toList.drop o).take n = bC bs) : Rds w0 l encU8 (some ⟨b, o, none⟩) bs :=
  rds_blk i hl fun j u hu => by
    rw [bC_flat, ← h] at hu
    obtain ⟨hj, _⟩ := List.getElem?_eq_some_iff.1 hu
    have hj' : j < n := by simp at hj; omega
    rw [List.getElem?_take_of_lt hj', List.getElem?_drop] at hu
    simpa using hu
def overB (r ys : List UInt8) (k : Nat) : List UInt8 := ys.take k ++ r.drop k
def Root.over (r : Root) (ys : List UInt8) : Root := ⟨overB r.1 ys (min ys.length 32), by unfold overB; rw [List.length_append, List.length_take, List.length_drop, r.2]; omega⟩
def Tag.over (r : Tag) (ys : List UInt8) : Tag := ⟨overB r.1 ys (min ys.length 16), by unfold overB; rw [List.length_append, List.length_take, List.length_drop, r.2]; omega⟩
section
variable {P : Program} {w0 w : World} {n : Nat} {f : Fr} {l l' : List HProp} {d : Option Tmp} {ty : TypeId} {pos : String} {aft : Array Edge} {g : Option (Nat × Bool)} {x y z : Operand} {T T' : TypeId} {v : Value}
/-- copy of a text onto an array of bytes that lies within a block -/
theorem os_copyf {as : Array TypeId} {b o n1 c1 : Nat} {r : List UInt8} {cs : Array Value} {t : TypeId} {fr : Nat × Nat} (ys : List UInt8) (L : List Value) (S : TypeId) (hS : as[0]? = some S) (hT : slice1B P S = true) (hx : ev f x = .slice (some ⟨b, o, none⟩) n1 c1) (hy : ev f y = .string (B ys))
    (h1 : r.length = n1) (hr : (cs.toList.drop o).take n1 = bC r) (hsz : o + n1 ≤ cs.size) (hf : Free cs.size fr) (hL : cs.toList.take o ++ bC (overB r ys (min ys.length n1)) ++ cs.toList.drop (o + n1) = L) :
    OS P w0 n ⟨d, .call ⟨.builtin .copy, #[x, y], as⟩, ty, pos, aft, g⟩ f (Blk b (.cells cs t fr) :: l) (fun v l' => v = .int .i64 ((min ys.length n1 : Nat) : Int) ∧ l' = Blk b (.cells L.toArray t fr) :: l) := fun a w r2 s => by
  unfold slice1B at hT
  split at hT
  · rename_i e hu
    split at hT
    · rename_i i hi
      have hs : i.size = 1 := by simpa using hT
      have hk : (bC (ys.take (min ys.length n1))).length = min ys.length n1 := by rw [bC_len, List.length_take]; omega
      have hst := run_storeCells_row P b o t fr (bC (ys.take (min ys.length n1))) 0 cs w s.blk (by rw [hk]; omega) (bC_one _) hf
      rw [hk] at hst
      simp only [Nat.add_zero] at hst
      have hcs : (cs.toList.take o ++ bC (ys.take (min ys.length n1)) ++ cs.toList.drop (o + min ys.length n1)) = L := by
        rw [← hL]
        have e1 : cs.toList.drop (o + min ys.length n1) = bC (r.drop (min ys.length n1)) ++ cs.toList.drop (o + n1) := by
          have e2 : cs.toList.drop o = bC r ++ cs.toList.drop (o + n1) := by
            rw [← hr, ← List.drop_drop, List.take_append_drop]
          rw [← List.drop_drop, e2, List.drop_append_of_le_length (by rw [bC_len, h1]; omega)]
          simp [bC, List.map_drop]
        rw [e1]
        unfold overB
        simp [bC]
      have hfc : (Builtin.firstCells 1 (min ys.length n1) (.string (B ys))).run P w = .ok (bC (ys.take (min ys.length n1))).toArray w := by
        simp [Builtin.firstCells, bC, B]
      have hb : (Builtin.copy_ as ty #[.slice (some ⟨b, o, none⟩) n1 c1, .string (B ys)]).run P w = .ok (.int .i64 ((min ys.length n1 : Nat) : Int)) (w.setRow b L.toArray) := by
        rw [hcs] at hst
        simp only [Builtin.copy_, hS]
        simp [run_underlying hu, Builtin.lenOf, sizeOf, typeInfo, hi, hs, B_size]
        rw [show Nat.min ys.length n1 = min ys.length n1 from rfl, hfc]
        simp
        rw [hst]
        simp [goInt]
      have : (execOp a.eval ⟨d, .call ⟨.builtin .copy, #[x, y], as⟩, ty, pos, aft, g⟩).run P w = .ok (.value (.int .i64 ((min ys.length n1 : Nat) : Int))) (w.setRow b L.toArray) := by
        have hax : a.eval x = ev f x := r2.eval x
        have hay : a.eval y = ev f y := r2.eval y
        simp [execOp, resolve, invoke, builtin, hax, hay, hx, hy, hb]
      rw [this]
      exact ⟨_, ⟨rfl, rfl⟩, s.setRow⟩
    · cases hT
  · cases hT
end
end Go.SL
