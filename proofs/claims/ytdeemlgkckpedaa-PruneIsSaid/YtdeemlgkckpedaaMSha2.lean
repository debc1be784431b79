import Derived.Test.YtdeemlgkckpedaaMSha
set_option linter.unusedVariables false
set_option linter.unusedSimpArgs false
namespace Go.SL
/-! ### Digits, and the order of texts -/
def DIG : List UInt8 := [48, 49, 50, 51, 52, 53, 54, 55, 56, 57, 97, 98, 99, 100, 101, 102]
def hexd (n : Nat) : UInt8 := DIG.getD n 0
def hexS (l : List UInt8) : List UInt8 := l.flatMap fun b => [hexd (b.toNat / 16), hexd (b.toNat % 16)]
theorem hexS_cons (b : UInt8) (l : List UInt8) : hexS (b :: l) = hexd (b.toNat / 16) :: hexd (b.toNat % 16) :: hexS l := rfl
theorem hexS_len (l : List UInt8) : (hexS l).length = 2 * l.length := by
  induction l with
  | nil => rfl
  | cons b l ih => rw [hexS_cons, List.length_cons, List.length_cons, ih, List.length_cons]; omega
theorem hexS_succ (l : List UInt8) (i : Nat) (h : i < l.length) : hexS (l.take (i + 1)) = hexS (l.take i) ++ [hexd ((l.getD i 0).toNat / 16), hexd ((l.getD i 0).toNat % 16)] := by
  unfold hexS
  rw [List.take_add_one, List.getElem?_eq_getElem h, Option.toList_some, List.flatMap_append]
  simp [List.getD_eq_getElem?_getD, h]
theorem hexd_lt : ∀ m, m < 16 → ∀ n, n < 16 → (hexd m < hexd n ↔ m < n) := by decide
theorem hexd_eq : ∀ m, m < 16 → ∀ n, n < 16 → (hexd m = hexd n ↔ m = n) := by decide
theorem hexd_ok : ∀ m, m < 16 → 48 ≤ (hexd m).toNat ∧ (hexd m).toNat ≤ 57 ∨ 97 ≤ (hexd m).toNat ∧ (hexd m).toNat ≤ 102 := by decide
theorem hexS_ok {l : List UInt8} {x : UInt8} (h : x ∈ hexS l) : 48 ≤ x.toNat ∧ x.toNat ≤ 57 ∨ 97 ≤ x.toNat ∧ x.toNat ≤ 102 := by
  obtain ⟨b, _, hb⟩ := List.mem_flatMap.1 h
  have := b.toNat_lt
  rcases List.mem_cons.1 hb with rfl | hb
  · exact hexd_ok _ (by omega)
  · obtain rfl := List.mem_singleton.1 hb
    exact hexd_ok _ (by omega)
theorem hexS_inj : ∀ {a b : List UInt8}, hexS a = hexS b ↔ a = b
  | [], [] => by simp
  | [], y :: b => by simp [hexS_cons]; simp [hexS]
  | x :: a, [] => by simp [hexS_cons]; simp [hexS]
  | x :: a, y :: b => by
    have hx := x.toNat_lt
    have hy := y.toNat_lt
    rw [hexS_cons, hexS_cons, List.cons.injEq, List.cons.injEq, hexd_eq _ (by omega) _ (by omega), hexd_eq _ (by omega) _ (by omega), hexS_inj, List.cons.injEq]
    constructor
    · rintro ⟨h1, h2, h3⟩
      exact ⟨UInt8.toNat_inj.1 (by omega), h3⟩
    · rintro ⟨rfl, rfl⟩
      exact ⟨rfl, rfl, rfl⟩
theorem lt8 {x y : UInt8} : x < y ↔ x.toNat < y.toNat := UInt8.lt_iff_toNat_lt
theorem bl_irrefl : ∀ (a : List UInt8), Op.bytesLess a a = false
  | [] => rfl
  | x :: a => by simp [Op.bytesLess, bl_irrefl a]
theorem bl_asymm : ∀ {a b : List UInt8}, Op.bytesLess a b = true → Op.bytesLess b a = false
  | [], [], h => by simp [Op.bytesLess] at h
  | [], y :: b, h => by simp [Op.bytesLess]
  | x :: a, [], h => by simp [Op.bytesLess] at h
  | x :: a, y :: b, h => by
    simp only [Op.bytesLess, Bool.or_eq_true, decide_eq_true_eq, Bool.and_eq_true, beq_iff_eq, lt8] at h
    have h2 : ¬ (y.toNat < x.toNat ∨ y = x ∧ Op.bytesLess b a = true) := by
      rintro (h3 | ⟨rfl, h3⟩)
      · rcases h with h | ⟨rfl, h⟩ <;> omega
      · rcases h with h | ⟨_, h⟩
        · omega
        · rw [bl_asymm h] at h3; cases h3
    cases e : Op.bytesLess (y :: b) (x :: a) with
    | false => rfl
    | true =>
      simp only [Op.bytesLess, Bool.or_eq_true, decide_eq_true_eq, Bool.and_eq_true, beq_iff_eq, lt8] at e
      exact absurd e h2
theorem bl_tri : ∀ {a b : List UInt8}, a.length = b.length → Op.bytesLess a b = false → Op.bytesLess b a = false → a = b
  | [], [], _, _, _ => rfl
  | x :: a, y :: b, hl, h1, h2 => by
    have e1 : ¬ (x.toNat < y.toNat ∨ x = y ∧ Op.bytesLess a b = true) := fun h => by
      have : Op.bytesLess (x :: a) (y :: b) = true := by simp only [Op.bytesLess, Bool.or_eq_true, decide_eq_true_eq, Bool.and_eq_true, beq_iff_eq, lt8]; exact h
      rw [h1] at this; cases this
    have e2 : ¬ (y.toNat < x.toNat ∨ y = x ∧ Op.bytesLess b a = true) := fun h => by
      have : Op.bytesLess (y :: b) (x :: a) = true := by simp only [Op.bytesLess, Bool.or_eq_true, decide_eq_true_eq, Bool.and_eq_true, beq_iff_eq, lt8]; exact h
      rw [h2] at this; cases this
    have exy : x = y := UInt8.toNat_inj.1 (by omega)
    subst exy
    have e3 : Op.bytesLess a b = false := by cases e : Op.bytesLess a b with | false => rfl | true => exact absurd (.inr ⟨rfl, e⟩) e1
    have e4 : Op.bytesLess b a = false := by cases e : Op.bytesLess b a with | false => rfl | true => exact absurd (.inr ⟨rfl, e⟩) e2
    rw [bl_tri (by simpa using hl) e3 e4]
theorem bl_trans : ∀ {a b c : List UInt8}, Op.bytesLess a b = true → Op.bytesLess b c = true → Op.bytesLess a c = true
  | [], [], _, h, _ => by simp [Op.bytesLess] at h
  | _ :: _, [], _, h, _ => by simp [Op.bytesLess] at h
  | _, _ :: _, [], _, h => by simp [Op.bytesLess] at h
  | [], _ :: _, z :: c, _, _ => by simp [Op.bytesLess]
  | x :: a, y :: b, z :: c, h1, h2 => by
    simp only [Op.bytesLess, Bool.or_eq_true, decide_eq_true_eq, Bool.and_eq_true, beq_iff_eq, lt8] at h1 h2 ⊢
    rcases h1 with h1 | ⟨rfl, h1⟩
    · rcases h2 with h2 | ⟨rfl, h2⟩
      · exact .inl (by omega)
      · exact .inl h1
    · rcases h2 with h2 | ⟨rfl, h2⟩
      · exact .inl h2
      · exact .inr ⟨rfl, bl_trans h1 h2⟩
theorem bl_hex : ∀ {a b : List UInt8}, Op.bytesLess (hexS a) (hexS b) = Op.bytesLess a b
  | [], [] => rfl
  | [], y :: b => rfl
  | x :: a, [] => rfl
  | x :: a, y :: b => by
    have hx := x.toNat_lt
    have hy := y.toNat_lt
    rw [hexS_cons, hexS_cons, Bool.eq_iff_iff]
    simp only [Op.bytesLess, Bool.or_eq_true, decide_eq_true_eq, Bool.and_eq_true, beq_iff_eq, bl_hex]
    rw [hexd_lt _ (by omega) _ (by omega), hexd_lt _ (by omega) _ (by omega), hexd_eq _ (by omega) _ (by omega), hexd_eq _ (by omega) _ (by omega), lt8]
    constructor
    · rintro (h | ⟨h1, h | ⟨h2, h3⟩⟩)
      · exact .inl (by omega)
      · exact .inl (by omega)
      · exact .inr ⟨UInt8.toNat_inj.1 (by omega), h3⟩
    · rintro (h | ⟨rfl, h⟩)
      · by_cases e : x.toNat / 16 = y.toNat / 16
        · exact .inr ⟨e, .inl (by omega)⟩
        · exact .inl (by omega)
      · exact .inr ⟨rfl, .inr ⟨rfl, h⟩⟩
theorem flat_rep (n : Nat) : (List.replicate n ([] : List UInt8)).flatten = [] := by
  induction n with
  | zero => rfl
  | succ n ih => rw [List.replicate_succ, List.flatten_cons, ih]; rfl
theorem left_nil : left [] = [] := by simp [left]
theorem runs_nil (w : W8) : runs w [] = w := runs_lt (by simp)
theorem hexR (a b : Root) : decide (hexS a.1 = hexS b.1) = decide (a = b) := decide_eq_decide.2 (hexS_inj.trans ⟨fun h => Subtype.ext h, fun h => by rw [h]⟩)
theorem bl_ne {a b : Root} (h : Op.bytesLess a.1 b.1 = true) : a ≠ b := fun e => by
  subst e
  rw [bl_irrefl] at h
  cases h
end Go.SL
