import Derived.Test.YtgdlddjalilmhaaEnl
import Derived.Test.YtgdlddjalilmhaaMBit
set_option linter.unusedVariables false
set_option linter.unusedSimpArgs false
namespace Go.SL
/-! ### Messages, in plain Lean -/
def goodW (k sl mb : Int) (bd : Nat) (bits : List Bool) : Bool :=
  decide (0 ≤ sl ∧ sl ≤ 1073741824 ∧ 0 ≤ mb ∧ mb ≤ 65535 ∧ (k = 1 ∨ bd = 0) ∧ (k = 3 ∧ mb = 0 ∧ bits.length ≤ 16 ∧ bits.contains true = true ∨ (k = 1 ∨ k = 2) ∧ bits.length = 0))
def bodyW (k mb : Int) (bd : Nat) (bits : List Bool) : List UInt8 :=
  if k = 1 then putB (u64N mb) 2 ++ putB bd 8 else if k = 2 then putB (u64N mb) 2 else if k = 3 then enc8 bits else []
def plainW (k sl : Int) (tg : Root) (mb : Int) (bd : Nat) (bits : List Bool) : List UInt8 := [byteI k] ++ putB (u64N sl) 4 ++ tg.1 ++ bodyW k mb bd bits
theorem bodyW_le (k mb : Int) (bd : Nat) (bits : List Bool) : (bodyW k mb bd bits).length ≤ 10 + bits.length := by
  unfold bodyW
  split
  · simp [putB_length]
  · split
    · simp [putB_length]; omega
    · split
      · rw [enc8_length]; omega
      · simp
theorem plainW_len (k sl : Int) (tg : Root) (mb : Int) (bd : Nat) (bits : List Bool) : (plainW k sl tg mb bd bits).length = 37 + (bodyW k mb bd bits).length := by
  unfold plainW
  simp [putB_length, tg.2]
  omega
structure MsgP where
  kind : Int
  slot : Int
  target : Root
  member : Int
  body : Nat
  bits : List Bool
  tag : Tag
  deriving DecidableEq
def MsgP.zero : MsgP := ⟨0, 0, Root.zero, 0, 0, [], Tag.zero⟩
def endR (r : RdS) : Bool := !r.short && decide (r.rest = [])
def okW (r : RdS) (m : MsgP) : MsgP × Bool := if endR r = true ∧ goodW m.kind m.slot m.member m.body m.bits = true then (m, true) else (MsgP.zero, false)
/-- what Decode answers, as it reads -/
def decP (s : List UInt8) : MsgP × Bool :=
  let a := rdUint ⟨s, false⟩ 1
  let b := rdUint a.2 4
  let t := rdBytes b.2 32
  let tg := Root.zero.over t.1
  if (a.1 : Int) = 1 then
    let c := rdUint t.2 2
    let d := rdUint c.2 8
    let e := rdBytes d.2 16
    okW e.2 ⟨a.1, b.1, tg, c.1, d.1, [], Tag.zero.over e.1⟩
  else if (a.1 : Int) = 2 then
    let c := rdUint t.2 2
    let e := rdBytes c.2 16
    okW e.2 ⟨a.1, b.1, tg, c.1, 0, [], Tag.zero.over e.1⟩
  else if (a.1 : Int) = 3 then
    let c := rdBytes t.2 ((t.2.rest.length : Int) - 16)
    if (getB c.1 16).isSome = true then
      let e := rdBytes c.2 16
      okW e.2 ⟨a.1, b.1, tg, 0, 0, getD' c.1 16, Tag.zero.over e.1⟩
    else (MsgP.zero, false)
  else
    let e := rdBytes t.2 16
    okW e.2 ⟨a.1, b.1, tg, 0, 0, [], Tag.zero.over e.1⟩
def sameW (k sl : Int) (tg : Root) (mb : Int) (bd : Nat) (xs : List Bool) (tag : Tag) (k' sl' : Int) (tg' : Root) (mb' : Int) (bd' : Nat) (ys : List Bool) (tag' : Tag) : Bool :=
  decide (k = k') && (decide (sl = sl') && (decide (tg = tg') && (decide (mb = mb') && (decide (bd = bd') && (decide (tag = tag') && decide (xs = ys))))))
theorem cnt_pos (l : List Bool) : 0 < l.count true ↔ l.contains true = true := by
  rw [List.count_pos_iff, List.contains_iff_mem]
theorem cnt_succ (l : List Bool) (i : Nat) (h : i < l.length) : (l.take (i + 1)).count true = (l.take i).count true + (if l[i] = true then 1 else 0) := by
  rw [List.take_succ_eq_append_getElem h, List.count_append]
  by_cases e : l[i] = true <;> simp [e]
theorem rdBytes_len2 (r : RdS) (n : Int) : (rdBytes r n).1.length ≤ r.rest.length := by
  unfold rdBytes
  split
  · exact Nat.zero_le _
  · simp; omega
theorem rdBytes_rest (r : RdS) (n : Int) : (rdBytes r n).2.rest.length ≤ r.rest.length := by
  unfold rdBytes
  split
  · exact Nat.zero_le _
  · simp
theorem rdUint_rest (r : RdS) (n : Int) : (rdUint r n).2.rest.length ≤ r.rest.length := rdBytes_rest r _
theorem rdUint_lt (r : RdS) {k : Nat} (hk : k ≤ 8) : (rdUint r (k : Int)).1 < 256 ^ k := by
  unfold rdUint
  rw [if_neg (by omega)]
  have h1 := leNat_lt (rdBytes r (k : Int)).1
  have h2 : (rdBytes r (k : Int)).1.length ≤ k := by
    unfold rdBytes
    split
    · exact Nat.zero_le _
    · simp; omega
  exact Nat.lt_of_lt_of_le h1 (Nat.pow_le_pow_right (by decide) h2)
theorem rdUint_lt1 (r : RdS) : (rdUint r 1).1 < 256 := rdUint_lt r (k := 1) (by decide)
theorem rdUint_lt2 (r : RdS) : (rdUint r 2).1 < 65536 := rdUint_lt r (k := 2) (by decide)
theorem rdUint_lt4 (r : RdS) : (rdUint r 4).1 < 4294967296 := rdUint_lt r (k := 4) (by decide)
theorem rdUint_lt8 (r : RdS) : (rdUint r 8).1 < 18446744073709551616 := rdUint_lt r (k := 8) (by decide)
theorem okW_yes {r : RdS} {m : MsgP} (h1 : endR r = true) (h2 : goodW m.kind m.slot m.member m.body m.bits = true) : okW r m = (m, true) := if_pos ⟨h1, h2⟩
theorem okW_no {r : RdS} {m : MsgP} (h : ¬ (endR r = true ∧ goodW m.kind m.slot m.member m.body m.bits = true)) : okW r m = (MsgP.zero, false) := if_neg h
end Go.SL
namespace Go.SL
/-! ### One form -/
theorem goodW_iff {k sl mb : Int} {bd : Nat} {bits : List Bool} : goodW k sl mb bd bits = true ↔ (0 ≤ sl ∧ sl ≤ 1073741824 ∧ 0 ≤ mb ∧ mb ≤ 65535 ∧ (k = 1 ∨ bd = 0) ∧ (k = 3 ∧ mb = 0 ∧ bits.length ≤ 16 ∧ bits.contains true = true ∨ (k = 1 ∨ k = 2) ∧ bits.length = 0)) := decide_eq_true_iff
theorem goodW_k {k sl mb : Int} {bd : Nat} {bits : List Bool} (h : goodW k sl mb bd bits = true) : 1 ≤ k ∧ k ≤ 3 := by
  have := goodW_iff.1 h
  omega
theorem wlen {k sl mb : Int} {bd : Nat} {bits : List Bool} {tg : Root} (h : goodW k sl mb bd bits = true) (hk : k.toNat < ([0, 63, 55, 53 + (bits.length : Int) / 8 + 1] : List Int).length) : ([0, 63, 55, 53 + (bits.length : Int) / 8 + 1] : List Int)[k.toNat] = ((plainW k sl tg mb bd bits).length : Int) + 16 := by
  have hk3 := goodW_k h
  rw [plainW_len]
  have h3 : k = 1 ∨ k = 2 ∨ k = 3 := by omega
  rcases h3 with rfl | rfl | rfl
  · simp [bodyW, putB_length]
  · simp [bodyW, putB_length]
  · simp [bodyW, enc8_length]; omega
theorem putB_inj' {a b k : Nat} (ha : a < 256 ^ k) (hb : b < 256 ^ k) (h : putB a k = putB b k) : a = b := by
  have := congrArg leNat h
  rwa [leNat_putB, leNat_putB, Nat.mod_eq_of_lt ha, Nat.mod_eq_of_lt hb] at this
theorem u64_inj {a b : Int} {k : Nat} (ha : 0 ≤ a) (hb : 0 ≤ b) (h1 : a < 18446744073709551616) (h2 : b < 18446744073709551616) (h3 : a.toNat < 256 ^ k) (h4 : b.toNat < 256 ^ k) (h : putB (u64N a) k = putB (u64N b) k) : a = b := by
  have ua := u64N_nat ha (by omega)
  have ub := u64N_nat hb (by omega)
  rw [ua, ub] at h
  have := putB_inj' h3 h4 h
  omega
theorem plainW_inj {k sl mb k' sl' mb' : Int} {bd bd' : Nat} {xs ys : List Bool} {tg tg' : Root} (h : goodW k sl mb bd xs = true) (h' : goodW k' sl' mb' bd' ys = true) (hbd : bd < 18446744073709551616) (hbd' : bd' < 18446744073709551616) :
    plainW k sl tg mb bd xs = plainW k' sl' tg' mb' bd' ys ↔ (k = k' ∧ sl = sl' ∧ tg = tg' ∧ mb = mb' ∧ bd = bd' ∧ xs = ys) := by
  have g := goodW_iff.1 h
  have g' := goodW_iff.1 h'
  constructor
  · intro e
    unfold plainW at e
    simp only [List.append_assoc] at e
    obtain ⟨e1, e2⟩ := List.append_inj e rfl
    obtain ⟨e3, e4⟩ := List.append_inj e2 (by rw [putB_length, putB_length])
    obtain ⟨e5, e6⟩ := List.append_inj e4 (by rw [tg.2, tg'.2])
    have hk : k = 1 ∨ k = 2 ∨ k = 3 := by omega
    have hk' : k' = 1 ∨ k' = 2 ∨ k' = 3 := by omega
    have ek : k = k' := by
      have e1' := List.cons.inj e1 |>.1
      rcases hk with rfl | rfl | rfl <;> rcases hk' with rfl | rfl | rfl <;> first | rfl | (exfalso; revert e1'; decide)
    have esl : sl = sl' := u64_inj g.1 g'.1 (by omega) (by omega) (k := 4) (by omega) (by omega) e3
    have etg : tg = tg' := Subtype.ext e5
    subst ek
    refine ⟨rfl, esl, etg, ?_⟩
    unfold bodyW at e6
    rcases hk with rfl | rfl | rfl
    · simp only [if_true] at e6
      obtain ⟨e7, e8⟩ := List.append_inj e6 (by rw [putB_length, putB_length])
      have em : mb = mb' := u64_inj (by omega) (by omega) (by omega) (by omega) (k := 2) (by omega) (by omega) e7
      have eb : bd = bd' := putB_inj' (by omega) (by omega) e8
      have l1 : xs = [] := List.eq_nil_of_length_eq_zero (by omega)
      have l2 : ys = [] := List.eq_nil_of_length_eq_zero (by omega)
      exact ⟨em, eb, by rw [l1, l2]⟩
    · rw [if_neg (by decide), if_pos rfl, if_neg (by decide), if_pos rfl] at e6
      have em : mb = mb' := u64_inj (by omega) (by omega) (by omega) (by omega) (k := 2) (by omega) (by omega) e6
      have l1 : xs = [] := List.eq_nil_of_length_eq_zero (by omega)
      have l2 : ys = [] := List.eq_nil_of_length_eq_zero (by omega)
      exact ⟨em, by omega, by rw [l1, l2]⟩
    · rw [if_neg (by decide), if_neg (by decide), if_pos rfl, if_neg (by decide), if_neg (by decide), if_pos rfl] at e6
      exact ⟨by omega, by omega, enc8_inj e6⟩
  · rintro ⟨rfl, rfl, rfl, rfl, rfl, rfl⟩
    rfl
theorem encW_inj {p q : List UInt8} {a b : Tag} : p ++ a.1 = q ++ b.1 ↔ p = q ∧ a = b := by
  constructor
  · intro h
    obtain ⟨h1, h2⟩ := List.append_inj' h (by rw [a.2, b.2])
    exact ⟨h1, Subtype.ext h2⟩
  · rintro ⟨rfl, rfl⟩
    rfl
theorem sameW_iff {k sl mb k' sl' mb' : Int} {bd bd' : Nat} {xs ys : List Bool} {tg tg' : Root} {t t' : Tag} : sameW k sl tg mb bd xs t k' sl' tg' mb' bd' ys t' = true ↔ (k = k' ∧ sl = sl' ∧ tg = tg' ∧ mb = mb' ∧ bd = bd' ∧ t = t' ∧ xs = ys) := by
  unfold sameW
  simp only [Bool.and_eq_true, decide_eq_true_eq]
theorem same_enc {k sl mb k' sl' mb' : Int} {bd bd' : Nat} {xs ys : List Bool} {tg tg' : Root} {t t' : Tag} (h : goodW k sl mb bd xs = true) (h' : goodW k' sl' mb' bd' ys = true) (hbd : bd < 18446744073709551616) (hbd' : bd' < 18446744073709551616) :
    decide (plainW k sl tg mb bd xs ++ t.1 = plainW k' sl' tg' mb' bd' ys ++ t'.1) = sameW k sl tg mb bd xs t k' sl' tg' mb' bd' ys t' := by
  rw [Bool.eq_iff_iff, decide_eq_true_iff, sameW_iff, encW_inj, plainW_inj h h' hbd hbd']
  constructor
  · rintro ⟨⟨h1, h2, h3, h4, h5, h6⟩, h7⟩; exact ⟨h1, h2, h3, h4, h5, h7, h6⟩
  · rintro ⟨h1, h2, h3, h4, h5, h7, h6⟩; exact ⟨⟨h1, h2, h3, h4, h5, h6⟩, h7⟩
theorem same_plain {k sl mb k' sl' mb' : Int} {bd bd' : Nat} {xs ys : List Bool} {tg tg' : Root} {t : Tag} (h : goodW k sl mb bd xs = true) (h' : goodW k' sl' mb' bd' ys = true) (hbd : bd < 18446744073709551616) (hbd' : bd' < 18446744073709551616) :
    decide (plainW k sl tg mb bd xs = plainW k' sl' tg' mb' bd' ys) = sameW k sl tg mb bd xs t k' sl' tg' mb' bd' ys t := by
  rw [Bool.eq_iff_iff, decide_eq_true_iff, sameW_iff, plainW_inj h h' hbd hbd']
  constructor
  · rintro ⟨h1, h2, h3, h4, h5, h6⟩; exact ⟨h1, h2, h3, h4, h5, rfl, h6⟩
  · rintro ⟨h1, h2, h3, h4, h5, h7, h6⟩; exact ⟨h1, h2, h3, h4, h5, h6⟩
def walE : List UInt8 := if goodW 2 7 3 0 [] = true then plainW 2 7 Root.zero 3 0 [] ++ Tag.zero.1 else []
theorem wal_good : goodW 2 7 3 0 [] = true := by decide
theorem wal_len : walE.length = 55 := by decide +kernel
theorem wal_dec : decP walE = (⟨2, 7, Root.zero, 3, 0, [], Tag.zero⟩, true) := by decide +kernel
theorem byte1 {k : Int} (h1 : 1 ≤ k) (h2 : k ≤ 3) : putB (u64N k) 1 = [byteI k] := by
  have h3 : k = 1 ∨ k = 2 ∨ k = 3 := by omega
  rcases h3 with rfl | rfl | rfl <;> decide
end Go.SL
