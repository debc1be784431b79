import Derived.Test.YtgdlddjalilmhaaMGen2
set_option linter.unusedVariables false
set_option linter.unusedSimpArgs false
namespace Go.SL
/-! ### Equality of validators -/
theorem feq_str {P : Program} {xs ys : Array Value} {fl : Field} {fs : List Field} {c : Bool} {a b : List UInt8} (hn : fl.name ≠ "_") (hu : P.underlying fl.type = some .string) (hx : xs[fl.offset]? = some (.string (B a))) (hy : ys[fl.offset]? = some (.string (B b))) (h : FEq P xs ys fs c) :
    FEq P xs ys (fl :: fs) (decide (a = b) && c) := fun d w => by
  have hpk : P.plainKey fl.type = true := by unfold Program.plainKey; rw [hu]
  simp only [Op.eqFields, hn, ne_eq, not_false_eq_true, if_true, Sem.run_bind, run_part_plain w hpk hx, run_part_plain w hpk hy, Result.andThen_ok, run_equalIn_string w (d + 2) _ _ _ hu, B_toList]
  by_cases hab : a = b
  · simp [hab, h d w]
  · simp [hab]
theorem feq_Val {P : Program} {fs : List Field} {ti ts : TypeId} (hf : (fs.map fun f => (f.name, f.type, f.offset)) = [("Stake", ti, 0), ("Key", ts, 1)]) (hi : P.underlying ti = some (.int .i64)) (hs : P.underlying ts = some .string) (a b : Val) : FEq P (valC a).toArray (valC b).toArray fs (decide (a = b)) := by
  obtain ⟨f0, f1, rfl⟩ := list_len2 (by simpa using congrArg List.length hf)
  simp only [List.map_cons, List.map_nil, List.cons.injEq, Prod.mk.injEq, and_true] at hf
  obtain ⟨⟨n0, t0, o0⟩, ⟨n1, t1, o1⟩⟩ := hf
  have h := feq_int (P := P) (by rw [n0]; decide) (by rw [t0]; exact hi) (by rw [o0]; exact valC_a0 a) (by rw [o0]; exact valC_a0 b) (feq_str (P := P) (by rw [n1]; decide) (by rw [t1]; exact hs) (by rw [o1]; exact valC_a1 a) (by rw [o1]; exact valC_a1 b) feq_nil)
  have e : (decide (a.stake = b.stake) && (decide (a.key = b.key) && true)) = decide (a = b) := by
    rw [Bool.eq_iff_iff]
    cases a; cases b
    simp
  rw [← e]
  exact h
/-! ### Lesser numbers -/
def cfgL (V : SlV) (ns : List Int) : List Value := SlV.v V :: ns.map (Value.int .i64)
def mx1 (x : Int) : Int := if x < 1 then 1 else x
def lessL (ns ls : List Int) (i : Nat) : List Int := (List.range 11).map fun j => if j < i then mx1 (ns.getD j 0 - ls.getD j 0) else ns.getD j 0
theorem lessL_len (ns ls : List Int) (i : Nat) : (lessL ns ls i).length = 11 := by simp [lessL]
theorem lessL_get (ns ls : List Int) (i j : Nat) (h : j < 11) : (lessL ns ls i).getD j 0 = if j < i then mx1 (ns.getD j 0 - ls.getD j 0) else ns.getD j 0 := by
  simp [lessL, List.getD_eq_getElem?_getD, h]
theorem lessL_zero (a0 a1 a2 a3 a4 a5 a6 a7 a8 a9 a10 : Int) (ls : List Int) : lessL [a0, a1, a2, a3, a4, a5, a6, a7, a8, a9, a10] ls 0 = [a0, a1, a2, a3, a4, a5, a6, a7, a8, a9, a10] := rfl
theorem cfgL_at (V : SlV) (ns ls : List Int) (i : Nat) (h : i < 11) : (cfgL V (lessL ns ls i)).toArray[i + 1]? = some (.int .i64 (ns.getD i 0)) := by
  simp [cfgL, lessL, h]
theorem cfgL_size (V : SlV) (ns ls : List Int) (i : Nat) : (cfgL V (lessL ns ls i)).toArray.size = 12 := by simp [cfgL, lessL]
theorem cfgL_set (V : SlV) (ns ls : List Int) (i : Nat) {x : Int} (h : i < 11) (hx : x = mx1 (ns.getD i 0 - ls.getD i 0)) : (cfgL V (lessL ns ls i)).toArray.setIfInBounds (i + 1) (.int .i64 x) = (cfgL V (lessL ns ls (i + 1))).toArray := by
  subst hx
  apply Array.toList_inj.1
  rw [Array.toList_setIfInBounds]
  show (cfgL V _).set (i + 1) _ = cfgL V _
  unfold cfgL
  rw [List.set_cons_succ, ← List.map_set]
  congr 2
  refine List.ext_getElem (by simp [lessL]) fun j h1 h2 => ?_
  have hj : j < 11 := by simpa [lessL] using h2
  rw [List.getElem_set]
  by_cases e : i = j
  · subst e; simp [lessL]
  · rw [if_neg e]
    simp only [lessL, List.getElem_map, List.getElem_range]
    by_cases h3 : j < i
    · rw [if_pos h3, if_pos (by omega)]
    · rw [if_neg h3, if_neg (by omega)]
def ptrs11 (b : Nat) : List (Option Addr) := (List.range 11).map fun k => some ⟨b, k + 1, none⟩
theorem ptrs11_len (b : Nat) : (ptrs11 b).length = 11 := by simp [ptrs11]
theorem ptrs11_at (b i : Nat) (h : i < (ptrs11 b).length) : (ptrs11 b)[i] = some ⟨b, i + 1, none⟩ := by simp [ptrs11]
theorem list_len11 {l : List Int} (h : l.length = 11) : ∃ a0 a1 a2 a3 a4 a5 a6 a7 a8 a9 a10, l = [a0, a1, a2, a3, a4, a5, a6, a7, a8, a9, a10] := by
  match l, h with
  | [a0, a1, a2, a3, a4, a5, a6, a7, a8, a9, a10], _ => exact ⟨a0, a1, a2, a3, a4, a5, a6, a7, a8, a9, a10, rfl⟩
theorem goodC_ns {V : SlV} {a0 a1 a2 a3 a4 a5 a6 a7 a8 a9 a10 : Int} {xs : List Val} (h : goodC ⟨V, a0, a1, a2, a3, a4, a5, a6, a7, a8, a9, a10⟩ xs = true) (i : Nat) (hi : i < 11) : 1 ≤ [a0, a1, a2, a3, a4, a5, a6, a7, a8, a9, a10].getD i 0 ∧ [a0, a1, a2, a3, a4, a5, a6, a7, a8, a9, a10].getD i 0 ≤ 1048576 := by
  unfold goodC numsC inR at h
  simp at h
  match i, hi with
  | 0, _ => simp; omega
  | 1, _ => simp; omega
  | 2, _ => simp; omega
  | 3, _ => simp; omega
  | 4, _ => simp; omega
  | 5, _ => simp; omega
  | 6, _ => simp; omega
  | 7, _ => simp; omega
  | 8, _ => simp; omega
  | 9, _ => simp; omega
  | 10, _ => simp; omega
theorem goodC_less {V : SlV} {a0 a1 a2 a3 a4 a5 a6 a7 a8 a9 a10 b0 b1 b2 b3 b4 b5 b6 b7 b8 b9 b10 : Int} {ls : List Int} {xs : List Val} (h : goodC ⟨V, a0, a1, a2, a3, a4, a5, a6, a7, a8, a9, a10⟩ xs = true)
    (e : lessL [a0, a1, a2, a3, a4, a5, a6, a7, a8, a9, a10] ls 11 = [b0, b1, b2, b3, b4, b5, b6, b7, b8, b9, b10]) (hl : ∀ j, j < 11 → 0 ≤ ls.getD j 0) : goodC ⟨V, b0, b1, b2, b3, b4, b5, b6, b7, b8, b9, b10⟩ xs = true := by
  have hk : ∀ j, j < 11 → 1 ≤ [b0, b1, b2, b3, b4, b5, b6, b7, b8, b9, b10].getD j 0 ∧ [b0, b1, b2, b3, b4, b5, b6, b7, b8, b9, b10].getD j 0 ≤ [a0, a1, a2, a3, a4, a5, a6, a7, a8, a9, a10].getD j 0 := fun j hj => by
    have h1 := goodC_ns h j hj
    have h2 := hl j hj
    rw [← e, lessL_get _ _ _ _ hj, if_pos hj]
    unfold mx1
    split <;> omega
  have k0 := hk 0 (by decide)
  have k1 := hk 1 (by decide)
  have k2 := hk 2 (by decide)
  have k3 := hk 3 (by decide)
  have k4 := hk 4 (by decide)
  have k5 := hk 5 (by decide)
  have k6 := hk 6 (by decide)
  have k7 := hk 7 (by decide)
  have k8 := hk 8 (by decide)
  have k9 := hk 9 (by decide)
  have k10 := hk 10 (by decide)
  simp at k0 k1 k2 k3 k4 k5 k6 k7 k8 k9 k10
  unfold goodC numsC inR at h ⊢
  simp at h ⊢
  refine ⟨h.1, ?_⟩
  have h2 := h.2
  omega
/-! ### One form -/
theorem putB_inj {a b k : Nat} (ha : a < 256 ^ k) (hb : b < 256 ^ k) (h : putB a k = putB b k) : a = b := by
  have := congrArg leNat h
  rwa [leNat_putB, leNat_putB, Nat.mod_eq_of_lt ha, Nat.mod_eq_of_lt hb] at this
theorem bytesA_inj : ∀ {l m : List Int}, l.length = m.length → (∀ x ∈ l, 0 ≤ x ∧ x < 4294967296) → (∀ x ∈ m, 0 ≤ x ∧ x < 4294967296) → bytesA l = bytesA m → l = m
  | [], [], _, _, _, _ => rfl
  | x :: l, y :: m, hl, h1, h2, h => by
    unfold bytesA at h
    rw [List.flatMap_cons, List.flatMap_cons] at h
    obtain ⟨e1, e2⟩ := List.append_inj h (by rw [putB_length, putB_length])
    have hx := h1 x List.mem_cons_self
    have hy := h2 y List.mem_cons_self
    have ux := u64N_nat hx.1 (by omega)
    have uy := u64N_nat hy.1 (by omega)
    have e3 := putB_inj (by rw [ux]; omega) (by rw [uy]; omega) e1
    rw [ux, uy] at e3
    have e4 : x = y := by omega
    have e5 := bytesA_inj (by simpa using hl) (fun z hz => h1 z (List.mem_cons_of_mem _ hz)) (fun z hz => h2 z (List.mem_cons_of_mem _ hz)) e2
    rw [e4, e5]
theorem bytesV_inj : ∀ {l m : List Val}, l.length = m.length → (∀ x ∈ l, valOK x = true ∧ x.stake < 4611686018427387904) → (∀ x ∈ m, valOK x = true ∧ x.stake < 4611686018427387904) → bytesV l = bytesV m → l = m
  | [], [], _, _, _, _ => rfl
  | x :: l, y :: m, hl, h1, h2, h => by
    unfold bytesV at h
    rw [List.flatMap_cons, List.flatMap_cons] at h
    simp only [List.append_assoc] at h
    have hx := h1 x List.mem_cons_self
    have hy := h2 y List.mem_cons_self
    have ox := of_decide_eq_true hx.1
    have oy := of_decide_eq_true hy.1
    obtain ⟨e1, e2⟩ := List.append_inj h (by rw [putB_length, putB_length])
    obtain ⟨e3, e4⟩ := List.append_inj e2 (by rw [putB_length, putB_length])
    have e5 := putB_inj (by omega) (by omega) e3
    obtain ⟨e6, e7⟩ := List.append_inj e4 e5
    have ux := u64N_nat ox.1 (by omega)
    have uy := u64N_nat oy.1 (by omega)
    have e8 := putB_inj (by rw [ux]; omega) (by rw [uy]; omega) e1
    rw [ux, uy] at e8
    have e9 : x = y := by
      cases x; cases y
      simp only [Val.mk.injEq] at e6 e8 ⊢
      exact ⟨by dsimp only at ox oy; omega, e6⟩
    have e10 := bytesV_inj (by simpa using hl) (fun z hz => h1 z (List.mem_cons_of_mem _ hz)) (fun z hz => h2 z (List.mem_cons_of_mem _ hz)) e7
    rw [e9, e10]
theorem totF_lt {xs : List Val} (h : (totF 0 xs).isSome = true) : ∀ v ∈ xs, valOK v = true ∧ v.stake < 4611686018427387904 := by
  rw [totF_iff (by omega) (by omega)] at h
  by_cases hc : (∀ v ∈ xs, valOK v = true) ∧ 0 + sumV xs < 4611686018427387904
  · intro v hv
    refine ⟨hc.1 v hv, ?_⟩
    have hs : v.stake ≤ sumV xs := by
      have : ∀ l : List Val, (∀ u ∈ l, valOK u = true) → v ∈ l → v.stake ≤ sumV l := by
        intro l
        induction l with
        | nil => intro _ h; cases h
        | cons a b ih =>
          intro h1 h2
          have hb := sumV_nonneg fun u hu => h1 u (List.mem_cons_of_mem _ hu)
          have ha := of_decide_eq_true (h1 a List.mem_cons_self)
          rw [sumV]
          rcases List.mem_cons.1 h2 with rfl | h3
          · omega
          · have := ih (fun u hu => h1 u (List.mem_cons_of_mem _ hu)) h3
            omega
      exact this xs hc.1 hv
    omega
  · rw [if_neg hc] at h; simp at h
theorem nums12_rg {q : Cfg} {xs : List Val} (h : goodC q xs = true) : ∀ x ∈ nums12 q xs.length, 0 ≤ x ∧ x < 4294967296 := by
  unfold goodC numsC inR at h
  simp at h
  have h2 := h.2
  unfold nums12
  intro x hx
  simp only [List.mem_cons, List.not_mem_nil, or_false] at hx
  rcases hx with rfl | rfl | rfl | rfl | rfl | rfl | rfl | rfl | rfl | rfl | rfl | rfl <;> omega
def sameC (a b : Cfg) (xs ys : List Val) : Bool := decide (numsL a xs.length = numsL b ys.length) && decide (xs = ys)
theorem numsL_12 {a b : Cfg} {m n : Nat} : numsL a m = numsL b n ↔ nums12 a m = nums12 b n := by
  unfold numsL nums12
  simp only [List.cons.injEq, and_true, true_and]
  constructor
  · rintro ⟨h1, h2, h3, h4, h5, h6, h7, h8, h9, h10, h11, h12, h13⟩
    exact ⟨h1, h2, h4, h5, h6, h7, h8, h9, h10, h11, h12, h13⟩
  · rintro ⟨h1, h2, h4, h5, h6, h7, h8, h9, h10, h11, h12, h13⟩
    exact ⟨h1, h2, by rw [h13], h4, h5, h6, h7, h8, h9, h10, h11, h12, h13⟩
theorem bytesC_one {a b : Cfg} {xs ys : List Val} (ha : goodC a xs = true) (hb : goodC b ys = true) : decide (bytesC a xs = bytesC b ys) = sameC a b xs ys := by
  unfold sameC
  rw [← Bool.decide_and, decide_eq_decide, numsL_12]
  constructor
  · intro h
    unfold bytesC at h
    obtain ⟨e1, e2⟩ := List.append_inj h (by rw [bytesA_length, bytesA_length]; rfl)
    have e3 : nums12 a xs.length = nums12 b ys.length := bytesA_inj (l := nums12 a xs.length) (m := nums12 b ys.length) rfl (nums12_rg ha) (nums12_rg hb) e1
    have e4 : (xs.length : Int) = ys.length := by
      have e5 := e3
      unfold nums12 at e5
      simp only [List.cons.injEq] at e5
      exact e5.2.2.2.2.2.2.2.2.2.2.2.1
    have ta : (totF 0 xs).isSome = true := by unfold goodC at ha; simp only [Bool.and_eq_true] at ha; exact ha.1
    have tb : (totF 0 ys).isSome = true := by unfold goodC at hb; simp only [Bool.and_eq_true] at hb; exact hb.1
    exact ⟨e3, bytesV_inj (by omega) (totF_lt ta) (totF_lt tb) e2⟩
  · rintro ⟨h1, rfl⟩
    unfold bytesC
    rw [h1]
theorem sameC_no1 {a b : Cfg} {xs ys : List Val} {i : Nat} (h1 : i < (numsL a xs.length).length) (h2 : i < (numsL b ys.length).length) (h : (numsL a xs.length)[i] ≠ (numsL b ys.length)[i]) : sameC a b xs ys = false := by
  unfold sameC
  rw [decide_eq_false fun e => h (by simp [e]), Bool.false_and]
theorem sameC_no2 {a b : Cfg} {xs ys : List Val} (h : xs ≠ ys) : sameC a b xs ys = false := by
  unfold sameC
  rw [decide_eq_false h, Bool.and_false]
theorem sameC_yes {a b : Cfg} {xs ys : List Val} (h1 : ∀ i (h1 : i < (numsL a xs.length).length) (h2 : i < (numsL b ys.length).length), (numsL a xs.length)[i] = (numsL b ys.length)[i]) (hl : xs.length = ys.length) (h2 : ∀ i (h1 : i < xs.length) (h2 : i < ys.length), xs[i] = ys[i]) : sameC a b xs ys = true := by
  unfold sameC
  have e1 : numsL a xs.length = numsL b ys.length := List.ext_getElem rfl h1
  have e2 : xs = ys := List.ext_getElem hl h2
  rw [decide_eq_true e1, decide_eq_true e2]
  rfl
theorem nums12_at (q : Cfg) (n j : Nat) (h : j < 12) (h1 : 2 * j < (numsL q n).length) (h3 : j < (nums12 q n).length) : (numsL q n)[2 * j] = (nums12 q n)[j] := by
  match j, h with
  | 0, _ => rfl
  | 1, _ => rfl
  | 2, _ => rfl
  | 3, _ => rfl
  | 4, _ => rfl
  | 5, _ => rfl
  | 6, _ => rfl
  | 7, _ => rfl
  | 8, _ => rfl
  | 9, _ => rfl
  | 10, _ => rfl
  | 11, _ => rfl
theorem clampI4 : clamp8 4 = 4 := rfl
end Go.SL
