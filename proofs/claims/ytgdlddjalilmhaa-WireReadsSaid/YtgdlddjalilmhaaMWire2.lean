import Derived.Test.YtgdlddjalilmhaaMWire
set_option linter.unusedVariables false
set_option linter.unusedSimpArgs false
namespace Go.SL
/-! ### What bytes say -/
def chk (m : MsgP) : MsgP × Bool := if goodW m.kind m.slot m.member m.body m.bits = true then (m, true) else (MsgP.zero, false)
def kindW (s : List UInt8) : Int := (leNat (s.take 1) : Nat)
def slotW (s : List UInt8) : Int := (leNat ((s.drop 1).take 4) : Nat)
def tgtW (s : List UInt8) : Root := Root.zero.over ((s.drop 5).take 32)
def tagW (s : List UInt8) (o : Nat) : Tag := Tag.zero.over ((s.drop o).take 16)
def memW (s : List UInt8) : Int := (leNat ((s.drop 37).take 2) : Nat)
def bdW (s : List UInt8) : Nat := leNat ((s.drop 39).take 8)
def midW (s : List UInt8) : List UInt8 := (s.drop 37).take (s.length - 53)
def m1W (s : List UInt8) : MsgP := ⟨kindW s, slotW s, tgtW s, memW s, bdW s, [], tagW s 47⟩
def m2W (s : List UInt8) : MsgP := ⟨kindW s, slotW s, tgtW s, memW s, 0, [], tagW s 39⟩
def m3W (s : List UInt8) : MsgP := ⟨kindW s, slotW s, tgtW s, 0, 0, getD' (midW s) 16, tagW s (s.length - 16)⟩
def decW (s : List UInt8) : MsgP × Bool :=
  if kindW s = 1 then (if s.length = 63 then chk (m1W s) else (MsgP.zero, false))
  else if kindW s = 2 then (if s.length = 55 then chk (m2W s) else (MsgP.zero, false))
  else if kindW s = 3 then (if 53 ≤ s.length ∧ (getB (midW s) 16).isSome = true then chk (m3W s) else (MsgP.zero, false))
  else (MsgP.zero, false)
/-! a reader that has read so far -/
def stR (s : List UInt8) (o : Nat) : RdS := if o ≤ s.length then ⟨s.drop o, false⟩ else ⟨[], true⟩
theorem stR_zero (s : List UInt8) : stR s 0 = ⟨s, false⟩ := by simp [stR]
theorem stR_ok {s : List UInt8} {o : Nat} (h : o ≤ s.length) : stR s o = ⟨s.drop o, false⟩ := if_pos h
theorem stR_bad {s : List UInt8} {o : Nat} (h : s.length < o) : stR s o = ⟨[], true⟩ := if_neg (by omega)
theorem rdB_st (s : List UInt8) (o k : Nat) : (rdBytes (stR s o) (k : Int)).2 = stR s (o + k) := by
  by_cases h : o + k ≤ s.length
  · rw [stR_ok (show o ≤ s.length by omega), rdBytes_ok rfl (by omega) (by simp only [List.length_drop]; omega), stR_ok h]
    simp [List.drop_drop]
  · rw [stR_bad (show s.length < o + k by omega)]
    by_cases h2 : o ≤ s.length
    · rw [stR_ok h2, rdBytes_bad (.inr (.inr (by simp only [List.length_drop]; omega)))]
    · rw [stR_bad (by omega), rdBytes_bad (.inl rfl)]
theorem rdB_val {s : List UInt8} {o k : Nat} (h : o + k ≤ s.length) : (rdBytes (stR s o) (k : Int)).1 = (s.drop o).take k := by
  rw [stR_ok (show o ≤ s.length by omega), rdBytes_ok rfl (by omega) (by simp only [List.length_drop]; omega)]
  simp
theorem rdU_st (s : List UInt8) (o k : Nat) (hk : k ≤ 8) : (rdUint (stR s o) (k : Int)).2 = stR s (o + k) := by
  unfold rdUint
  rw [if_neg (by omega)]
  exact rdB_st s o k
theorem rdU_val {s : List UInt8} {o k : Nat} (hk : k ≤ 8) (h : o + k ≤ s.length) : (rdUint (stR s o) (k : Int)).1 = leNat ((s.drop o).take k) := by
  unfold rdUint
  rw [if_neg (by omega)]
  exact congrArg leNat (rdB_val h)
theorem rdU_full {s : List UInt8} {o k : Nat} (hk : k ≤ 8) (h : o + k ≤ s.length) : rdUint ⟨s.drop o, false⟩ (k : Int) = (leNat ((s.drop o).take k), ⟨s.drop (o + k), false⟩) := by
  have h1 := rdU_st s o k hk
  have h2 := rdU_val hk h
  rw [stR_ok (show o ≤ s.length by omega)] at h1 h2
  rw [stR_ok h] at h1
  exact Prod.ext h2 h1
theorem kind_val (s : List UInt8) : ((rdUint (stR s 0) 1).1 : Int) = kindW s := by
  unfold kindW
  by_cases h : 1 ≤ s.length
  · rw [show (1 : Int) = ((1 : Nat) : Int) from rfl, rdU_val (k := 1) (by decide) (by omega), List.drop_zero]
  · have : s = [] := List.eq_nil_of_length_eq_zero (by omega)
    subst this
    rfl
theorem endR_st (s : List UInt8) (o : Nat) : endR (stR s o) = decide (s.length = o) := by
  unfold endR stR
  by_cases h : o ≤ s.length
  · rw [if_pos h]
    by_cases h2 : s.length = o
    · subst h2; simp
    · have : ¬ s.drop o = [] := fun e => by have := congrArg List.length e; simp at this; omega
      simp [this, h2]
  · rw [if_neg h]
    have : ¬ s.length = o := by omega
    simp [this]
theorem okW_st {s : List UInt8} {o : Nat} {m m' : MsgP} (h : s.length = o → m = m') : okW (stR s o) m = if s.length = o then chk m' else (MsgP.zero, false) := by
  unfold okW chk
  rw [endR_st]
  by_cases h2 : s.length = o
  · rw [if_pos h2, ← h h2]
    simp [h2]
  · rw [if_neg h2, if_neg (by simp [h2])]
theorem getB_nil (most : Int) : getB [] most = none := getB_none (.inl rfl)
theorem decP_eq (s : List UInt8) : decP s = decW s := by
  unfold decP decW
  rw [← stR_zero s]
  have u1 := rdU_st s 0 1 (by decide)
  have u2 := rdU_st s 1 4 (by decide)
  have u3 := rdB_st s 5 32
  simp only [Nat.zero_add] at u1
  have k1 := kind_val s
  rw [show ((1 : Nat) : Int) = 1 from rfl] at u1
  rw [show ((4 : Nat) : Int) = 4 from rfl] at u2
  rw [show ((32 : Nat) : Int) = 32 from rfl] at u3
  dsimp only
  rw [k1, u1, u2, u3]
  by_cases h1 : kindW s = 1
  · rw [if_pos h1, if_pos h1]
    have v1 := rdU_st s 37 2 (by decide)
    have v2 := rdU_st s 39 8 (by decide)
    have v3 := rdB_st s 47 16
    rw [show ((2 : Nat) : Int) = 2 from rfl] at v1
    rw [show ((8 : Nat) : Int) = 8 from rfl] at v2
    rw [show ((16 : Nat) : Int) = 16 from rfl] at v3
    rw [v1, v2, v3]
    refine okW_st fun hn => ?_
    unfold m1W slotW tgtW memW bdW tagW
    have w1 : (rdUint (stR s 1) 4).1 = _ := rdU_val (k := 4) (by decide) (by omega)
    have w2 : (rdBytes (stR s 5) 32).1 = _ := rdB_val (k := 32) (by omega)
    have w3 : (rdUint (stR s 37) 2).1 = _ := rdU_val (k := 2) (by decide) (by omega)
    have w4 : (rdUint (stR s 39) 8).1 = _ := rdU_val (k := 8) (by decide) (by omega)
    have w5 : (rdBytes (stR s 47) 16).1 = _ := rdB_val (k := 16) (by omega)
    rw [w1, w2, w3, w4, w5]
  · rw [if_neg h1, if_neg h1]
    by_cases h2 : kindW s = 2
    · rw [if_pos h2, if_pos h2]
      have v1 := rdU_st s 37 2 (by decide)
      have v3 := rdB_st s 39 16
      rw [show ((2 : Nat) : Int) = 2 from rfl] at v1
      rw [show ((16 : Nat) : Int) = 16 from rfl] at v3
      rw [v1, v3]
      refine okW_st fun hn => ?_
      unfold m2W slotW tgtW memW tagW
      have w1 : (rdUint (stR s 1) 4).1 = _ := rdU_val (k := 4) (by decide) (by omega)
      have w2 : (rdBytes (stR s 5) 32).1 = _ := rdB_val (k := 32) (by omega)
      have w3 : (rdUint (stR s 37) 2).1 = _ := rdU_val (k := 2) (by decide) (by omega)
      have w5 : (rdBytes (stR s 39) 16).1 = _ := rdB_val (k := 16) (by omega)
      rw [w1, w2, w3, w5]
    · rw [if_neg h2, if_neg h2]
      by_cases h3 : kindW s = 3
      · rw [if_pos h3, if_pos h3]
        by_cases hn : 53 ≤ s.length
        · have e1 : ((stR s 37).rest.length : Int) - 16 = ((s.length - 53 : Nat) : Int) := by
            rw [stR_ok (show 37 ≤ s.length by omega)]
            simp only [List.length_drop]
            omega
          rw [e1]
          have w0 : (rdBytes (stR s 37) ((s.length - 53 : Nat) : Int)).1 = midW s := rdB_val (by omega)
          have v0 := rdB_st s 37 (s.length - 53)
          rw [show 37 + (s.length - 53) = s.length - 16 by omega] at v0
          rw [w0, v0]
          by_cases hg : (getB (midW s) 16).isSome = true
          · rw [if_pos hg, if_pos ⟨hn, hg⟩]
            have v3 := rdB_st s (s.length - 16) 16
            rw [show ((16 : Nat) : Int) = 16 from rfl, show s.length - 16 + 16 = s.length by omega] at v3
            rw [v3]
            refine (okW_st fun _ => ?_).trans (if_pos rfl)
            unfold m3W slotW tgtW tagW
            have w1 : (rdUint (stR s 1) 4).1 = _ := rdU_val (k := 4) (by decide) (by omega)
            have w2 : (rdBytes (stR s 5) 32).1 = _ := rdB_val (k := 32) (by omega)
            have w5 : (rdBytes (stR s (s.length - 16)) 16).1 = _ := rdB_val (k := 16) (by omega)
            rw [w1, w2, w5]
          · rw [if_neg hg, if_neg fun q => hg q.2]
        · rw [if_neg (show ¬ (53 ≤ s.length ∧ (getB (midW s) 16).isSome = true) from fun q => hn q.1)]
          have e1 : rdBytes (stR s 37) (((stR s 37).rest.length : Int) - 16) = ([], ⟨[], true⟩) := by
            by_cases h4 : 37 ≤ s.length
            · rw [stR_ok h4]
              exact rdBytes_bad (.inr (.inl (by simp only [List.length_drop]; omega)))
            · rw [stR_bad (by omega)]
              exact rdBytes_bad (.inl rfl)
          rw [e1]
          dsimp only
          rw [getB_nil]
          rfl
      · rw [if_neg h3, if_neg h3]
        refine okW_no ?_
        rintro ⟨_, q⟩
        have := goodW_k q
        dsimp only at this
        omega
end Go.SL
namespace Go.SL
/-! byte for byte, as the document reads -/
def bySt (s : List UInt8) (o q : Nat) : UInt8 := UInt8.ofNat (rdUint (stR s (o + q)) 1).1
theorem leNat_one (b : UInt8) : leNat [b] = b.toNat := by simp [leNat]
theorem bySt_val {s : List UInt8} {o q : Nat} (h : o + q < s.length) : bySt s o q = (s.drop o).getD q 0 := by
  unfold bySt
  have w : (rdUint (stR s (o + q)) 1).1 = _ := rdU_val (k := 1) (by decide) (by omega)
  rw [w, List.drop_eq_getElem_cons h, List.take_succ_cons, List.take_zero, leNat_one, UInt8.ofNat_toNat]
  simp [List.getD_eq_getElem?_getD, h]
theorem overB_full {r ys : List UInt8} {k : Nat} (h : ys.length = k) (hr : r.length ≤ k) : overB r ys (min ys.length k) = ys := by
  unfold overB
  rw [h, Nat.min_self, List.take_of_length_le (by omega), List.drop_eq_nil_of_le hr, List.append_nil]
def tgS (s : List UInt8) (i : Nat) : Root := ⟨(List.range 32).map fun q => if q < i then bySt s 5 q else 0, by simp⟩
def taS (s : List UInt8) (o i : Nat) : Tag := ⟨(List.range 16).map fun q => if q < i then bySt s o q else 0, by simp⟩
theorem tgS_zero (s : List UInt8) : tgS s 0 = Root.zero := by
  apply Subtype.ext
  refine List.ext_getElem (by simp [tgS, Root.zero]) fun j h1 h2 => ?_
  simp only [tgS, Root.zero, List.getElem_map, List.getElem_range, List.getElem_replicate]
  rw [if_neg (by omega)]
theorem taS_zero (s : List UInt8) (o : Nat) : taS s o 0 = Tag.zero := by
  apply Subtype.ext
  refine List.ext_getElem (by simp [taS, Tag.zero]) fun j h1 h2 => ?_
  simp only [taS, Tag.zero, List.getElem_map, List.getElem_range, List.getElem_replicate]
  rw [if_neg (by omega)]
theorem tgS_all {s : List UInt8} (h : 37 ≤ s.length) : tgS s 32 = tgtW s := by
  apply Subtype.ext
  have hl : ((s.drop 5).take 32).length = 32 := by simp; omega
  have e : (tgtW s).1 = (s.drop 5).take 32 := overB_full hl (Nat.le_of_eq Root.zero.2)
  rw [e]
  refine List.ext_getElem (by rw [hl]; simp [tgS]) fun j h1 h2 => ?_
  have hj : j < 32 := by rw [hl] at h2; exact h2
  simp only [tgS, List.getElem_map, List.getElem_range]
  rw [if_pos hj, bySt_val (by omega), List.getElem_take]
  simp [List.getD_eq_getElem?_getD, show j < s.length - 5 by omega]
theorem taS_all {s : List UInt8} {o : Nat} (h : o + 16 ≤ s.length) : taS s o 16 = tagW s o := by
  apply Subtype.ext
  have hl : ((s.drop o).take 16).length = 16 := by simp; omega
  have e : (tagW s o).1 = (s.drop o).take 16 := overB_full hl (Nat.le_of_eq Tag.zero.2)
  rw [e]
  refine List.ext_getElem (by rw [hl]; simp [taS]) fun j h1 h2 => ?_
  have hj : j < 16 := by rw [hl] at h2; exact h2
  simp only [taS, List.getElem_map, List.getElem_range]
  rw [if_pos hj, bySt_val (by omega), List.getElem_take]
  simp [List.getD_eq_getElem?_getD, show j < s.length - o by omega]
theorem msg_tset (s : List UInt8) (k sl mb : Int) (bd : Nat) (v : SlV) (tag : Tag) {i : Nat} (h : i < 32) : (msgC ⟨k, sl, tgS s i, mb, bd, v, tag⟩).toArray.setIfInBounds (2 + i) (.int .u8 ((bySt s 5 i).toNat : Int)) = (msgC ⟨k, sl, tgS s (i + 1), mb, bd, v, tag⟩).toArray := by
  apply Array.toList_inj.1
  rw [Array.toList_setIfInBounds]
  show (msgC _).set (2 + i) _ = msgC _
  have e : (rootC (tgS s i)).set i (.int .u8 ((bySt s 5 i).toNat : Int)) = rootC (tgS s (i + 1)) := by
    refine List.ext_getElem (by rw [List.length_set, rootC_len, rootC_len]) fun j h1 h2 => ?_
    rw [List.getElem_set]
    by_cases e : i = j
    · subst e; simp [rootC, tgS]
    · rw [if_neg e]
      simp only [rootC, tgS, List.getElem_map, List.getElem_range]
      by_cases h3 : j < i
      · rw [if_pos h3, if_pos (by omega)]
      · rw [if_neg h3, if_neg (by omega)]
  unfold msgC
  dsimp only
  rw [← e, List.set_append_right _ _ (by simp only [List.length_singleton]; omega), List.set_append_right _ _ (by simp only [List.length_singleton]; omega), List.set_append_left _ _ (by rw [rootC_len]; simp only [List.length_singleton]; omega)]
  simp only [List.length_singleton]
  rw [show 2 + i - 1 - 1 = i by omega]
theorem msg_gset (s : List UInt8) (o : Nat) (k sl mb : Int) (bd : Nat) (v : SlV) (tg : Root) {i : Nat} (h : i < 16) : (msgC ⟨k, sl, tg, mb, bd, v, taS s o i⟩).toArray.setIfInBounds (37 + i) (.int .u8 ((bySt s o i).toNat : Int)) = (msgC ⟨k, sl, tg, mb, bd, v, taS s o (i + 1)⟩).toArray := by
  apply Array.toList_inj.1
  rw [Array.toList_setIfInBounds]
  show (msgC _).set (37 + i) _ = msgC _
  have e : (tagC (taS s o i)).set i (.int .u8 ((bySt s o i).toNat : Int)) = tagC (taS s o (i + 1)) := by
    refine List.ext_getElem (by rw [List.length_set, tagC_len, tagC_len]) fun j h1 h2 => ?_
    rw [List.getElem_set]
    by_cases e : i = j
    · subst e; simp [tagC, taS]
    · rw [if_neg e]
      simp only [tagC, taS, List.getElem_map, List.getElem_range]
      by_cases h3 : j < i
      · rw [if_pos h3, if_pos (by omega)]
      · rw [if_neg h3, if_neg (by omega)]
  unfold msgC
  dsimp only
  have hr := rootC_len tg
  rw [← e, List.set_append_right _ _ (by (try rw [hr]); simp only [List.length_singleton]; omega), List.set_append_right _ _ (by (try rw [hr]); simp only [List.length_singleton]; omega), List.set_append_right _ _ (by (try rw [hr]); simp only [List.length_singleton]; omega), List.set_append_right _ _ (by (try rw [hr]); simp only [List.length_singleton]; omega), List.set_append_right _ _ (by (try rw [hr]); simp only [List.length_singleton]; omega), List.set_append_right _ _ (by (try rw [hr]); simp only [List.length_singleton]; omega)]
  rw [hr]
  simp only [List.length_singleton]
  rw [show 37 + i - 1 - 1 - 32 - 1 - 1 - 1 = i by omega]
theorem stR_suf (s : List UInt8) (o : Nat) : (stR s o).rest <:+ s := by
  unfold stR
  split
  · exact List.drop_suffix _ _
  · exact List.nil_suffix
theorem stU1 (s : List UInt8) (o : Nat) : rdUint (stR s o) 1 = ((rdUint (stR s o) 1).1, stR s (o + 1)) := Prod.ext rfl (rdU_st s o 1 (by decide))
theorem stU (s : List UInt8) (o k : Nat) (hk : k ≤ 8) (h : o + k ≤ s.length) : rdUint (stR s o) (k : Int) = (leNat ((s.drop o).take k), stR s (o + k)) := Prod.ext (rdU_val hk h) (rdU_st s o k hk)
theorem leNat_takeLt (s : List UInt8) (k : Nat) : leNat (s.take k) < 256 ^ k := Nat.lt_of_lt_of_le (leNat_lt _) (Nat.pow_le_pow_right (by decide) (by rw [List.length_take]; omega))
end Go.SL
namespace Go.SL
theorem endR_stE {s : List UInt8} {o : Nat} : (!(stR s o).short && decide ((stR s o).rest = [])) = decide (s.length = o) := endR_st s o
theorem chk_yes {m : MsgP} (h : goodW m.kind m.slot m.member m.body m.bits = true) : chk m = (m, true) := if_pos h
theorem chk_no {m : MsgP} (h : goodW m.kind m.slot m.member m.body m.bits = false) : chk m = (MsgP.zero, false) := if_neg (by rw [h]; simp)
theorem kindW_rg (s : List UInt8) : 0 ≤ kindW s ∧ kindW s < 256 := by
  unfold kindW
  have := leNat_takeLt s 1
  omega
/-! what is encoded is decoded to the same, and back -/
theorem byteI_nat {k : Int} (h1 : 1 ≤ k) (h2 : k ≤ 3) : ((byteI k).toNat : Int) = k := by
  have h3 : k = 1 ∨ k = 2 ∨ k = 3 := by omega
  rcases h3 with rfl | rfl | rfl <;> decide
theorem leNat_cons1 (b : UInt8) (l : List UInt8) : leNat ((b :: l).take 1) = b.toNat := by simp [leNat]
theorem le_put {A k : Nat} (h : A < 256 ^ k) : leNat (putB A k) = A := by rw [leNat_putB, Nat.mod_eq_of_lt h]
theorem root_over {t : Root} : Root.zero.over t.1 = t := Subtype.ext (overB_full t.2 (Nat.le_of_eq Root.zero.2))
theorem tag_over {t : Tag} : Tag.zero.over t.1 = t := Subtype.ext (overB_full t.2 (Nat.le_of_eq Tag.zero.2))
theorem take_mid (p x q : List UInt8) (n m : Nat) (hn : p.length = n) (hm : x.length = m) : ((p ++ (x ++ q)).drop n).take m = x := by
  subst hn hm
  rw [List.drop_left, List.take_left]
theorem dec_enc {k sl mb : Int} {bd : Nat} {bits : List Bool} {tg : Root} {tag : Tag} (h : goodW k sl mb bd bits = true) (hbd : bd < 18446744073709551616) : decW (plainW k sl tg mb bd bits ++ tag.1) = (⟨k, sl, tg, mb, bd, bits, tag⟩, true) := by
  have g := goodW_iff.1 h
  obtain ⟨hk1, hk2⟩ := goodW_k h
  have hkn := byteI_nat hk1 hk2
  generalize hS : plainW k sl tg mb bd bits ++ tag.1 = S
  have e0 : S = [byteI k] ++ (putB (u64N sl) 4 ++ (tg.1 ++ (bodyW k mb bd bits ++ tag.1))) := by rw [← hS]; unfold plainW; simp only [List.append_assoc]
  have hl : S.length = 53 + (bodyW k mb bd bits).length := by rw [e0]; simp only [List.length_append, List.length_singleton, putB_length, tg.2, tag.2]; omega
  have ek : kindW S = k := by
    unfold kindW
    rw [e0]
    have : leNat (([byteI k] ++ (putB (u64N sl) 4 ++ (tg.1 ++ (bodyW k mb bd bits ++ tag.1)))).take 1) = (byteI k).toNat := leNat_cons1 _ _
    rw [this]
    exact hkn
  have usl := u64N_nat g.1 (by omega)
  have esl : slotW S = sl := by
    unfold slotW
    rw [e0, take_mid [byteI k] (putB (u64N sl) 4) _ 1 4 rfl (putB_length _ _), le_put (by rw [usl]; omega), usl]
    omega
  have etg : tgtW S = tg := by
    unfold tgtW
    have : S = ([byteI k] ++ putB (u64N sl) 4) ++ (tg.1 ++ (bodyW k mb bd bits ++ tag.1)) := by rw [e0]; simp only [List.append_assoc]
    rw [this, take_mid _ tg.1 _ 5 32 (by simp [putB_length]) tg.2]
    exact root_over
  have hp : ∀ x y : List UInt8, bodyW k mb bd bits = x ++ y → S = ([byteI k] ++ putB (u64N sl) 4 ++ tg.1 ++ x) ++ (y ++ tag.1) := fun x y e => by rw [e0, e]; simp only [List.append_assoc]
  have hpl : ([byteI k] ++ putB (u64N sl) 4 ++ tg.1).length = 37 := by simp [putB_length, tg.2]
  have etag : ∀ o, S.length = o + 16 → tagW S o = tag := fun o ho => by
    unfold tagW
    have : S = ([byteI k] ++ putB (u64N sl) 4 ++ tg.1 ++ bodyW k mb bd bits) ++ (tag.1 ++ []) := by rw [e0]; simp only [List.append_assoc, List.append_nil]
    rw [this, take_mid _ tag.1 [] o 16 (by rw [List.length_append, hpl]; omega) tag.2]
    exact tag_over
  unfold decW
  rw [ek]
  have hk : k = 1 ∨ k = 2 ∨ k = 3 := by omega
  rcases hk with rfl | rfl | rfl
  · have hb : bodyW 1 mb bd bits = putB (u64N mb) 2 ++ putB bd 8 := if_pos rfl
    have umb := u64N_nat (n := mb) (by omega) (by omega)
    have hl2 : S.length = 63 := by rw [hl, hb]; simp [putB_length]
    have em : memW S = mb := by
      unfold memW
      have e1 : S = ([byteI 1] ++ putB (u64N sl) 4 ++ tg.1) ++ (putB (u64N mb) 2 ++ (putB bd 8 ++ tag.1)) := by rw [e0, hb]; simp only [List.append_assoc]
      rw [e1, take_mid _ (putB (u64N mb) 2) _ 37 2 hpl (putB_length _ _), le_put (by rw [umb]; omega), umb]
      omega
    have ed : bdW S = bd := by
      unfold bdW
      rw [hp _ _ hb, take_mid _ (putB bd 8) _ 39 8 (by rw [List.length_append, hpl, putB_length]) (putB_length _ _), le_put (by omega)]
    have l1 : bits = [] := List.eq_nil_of_length_eq_zero (by omega)
    rw [if_pos rfl, if_pos hl2]
    have em1 : m1W S = ⟨1, sl, tg, mb, bd, bits, tag⟩ := by unfold m1W; rw [ek, esl, etg, em, ed, etag 47 (by omega), l1]
    rw [em1]
    exact chk_yes h
  · have hb : bodyW 2 mb bd bits = putB (u64N mb) 2 := by unfold bodyW; rw [if_neg (by decide), if_pos rfl]
    have umb := u64N_nat (n := mb) (by omega) (by omega)
    have hl2 : S.length = 55 := by rw [hl, hb]; simp [putB_length]
    have em : memW S = mb := by
      unfold memW
      have e1 : S = ([byteI 2] ++ putB (u64N sl) 4 ++ tg.1) ++ (putB (u64N mb) 2 ++ tag.1) := by rw [e0, hb]; simp only [List.append_assoc]
      rw [e1, take_mid _ (putB (u64N mb) 2) _ 37 2 hpl (putB_length _ _), le_put (by rw [umb]; omega), umb]
      omega
    have l1 : bits = [] := List.eq_nil_of_length_eq_zero (by omega)
    have l2 : bd = 0 := by omega
    rw [if_neg (by decide), if_pos rfl, if_pos hl2]
    have em1 : m2W S = ⟨2, sl, tg, mb, bd, bits, tag⟩ := by unfold m2W; rw [ek, esl, etg, em, etag 39 (by omega), l1, l2]
    rw [em1]
    exact chk_yes h
  · have hb : bodyW 3 mb bd bits = enc8 bits := by unfold bodyW; rw [if_neg (by decide), if_neg (by decide), if_pos rfl]
    have he := enc8_length bits
    have emid : midW S = enc8 bits := by
      unfold midW
      have e1 : S = ([byteI 3] ++ putB (u64N sl) 4 ++ tg.1) ++ (enc8 bits ++ tag.1) := by rw [e0, hb]; simp only [List.append_assoc]
      rw [show S.length - 53 = (enc8 bits).length by rw [hl, hb]; omega, e1]
      exact take_mid _ (enc8 bits) _ 37 _ hpl rfl
    have hg := getB_enc8 bits 16 (by omega)
    have l2 : bd = 0 := by omega
    have l3 : mb = 0 := by omega
    rw [if_neg (by decide), if_neg (by decide), if_pos rfl, if_pos ⟨by rw [hl]; omega, by rw [emid, hg]; rfl⟩]
    have em1 : m3W S = ⟨3, sl, tg, mb, bd, bits, tag⟩ := by
      unfold m3W getD'
      rw [ek, esl, etg, etag (S.length - 16) (by omega), emid, hg, l2, l3]
      rfl
    rw [em1]
    exact chk_yes h
end Go.SL
namespace Go.SL
theorem seg8 (s : List UInt8) (o k : Nat) : s.drop o = (s.drop o).take k ++ s.drop (o + k) := by
  rw [← List.drop_drop, List.take_append_drop]
theorem put_leNat' : ∀ (s : List UInt8) (k : Nat), s.length = k → putB (leNat s) k = s
  | [], k, h => by subst h; rfl
  | b :: r, k, h => by
    obtain ⟨j, rfl⟩ : ∃ j, k = j + 1 := ⟨k - 1, by simp at h; omega⟩
    have hb := b.toNat_lt
    rw [putB_cons, leNat]
    have e1 : (b.toNat + 256 * leNat r) / 256 = leNat r := by omega
    have e2 : (b.toNat + 256 * leNat r) % 256 = b.toNat := by omega
    rw [e1, e2, put_leNat' r j (by simpa using h), UInt8.ofNat_toNat]
theorem u64_leNat {s : List UInt8} {k : Nat} (h : s.length = k) (hk : k ≤ 8) : putB (u64N ((leNat s : Nat) : Int)) k = s := by
  have h1 := leNat_lt s
  have h2 : 256 ^ s.length ≤ 256 ^ 8 := Nat.pow_le_pow_right (by decide) (by omega)
  rw [u64N_nat (by omega) (by omega), Int.toNat_natCast]
  exact put_leNat' s k h
theorem byte_kind {s : List UInt8} (h1 : 1 ≤ kindW s) (h2 : kindW s ≤ 3) (hl : 1 ≤ s.length) : [byteI (kindW s)] = s.take 1 := by
  have hb := byte1 h1 h2
  rw [← hb]
  unfold kindW
  exact u64_leNat (by rw [List.length_take]; omega) (by decide)
theorem tgt_val {s : List UInt8} (h : 37 ≤ s.length) : (tgtW s).1 = (s.drop 5).take 32 := overB_full (by simp; omega) (Nat.le_of_eq Root.zero.2)
theorem tag_val {s : List UInt8} {o : Nat} (h : o + 16 ≤ s.length) : (tagW s o).1 = (s.drop o).take 16 := overB_full (by simp; omega) (Nat.le_of_eq Tag.zero.2)
theorem head37 {s : List UInt8} (h1 : 1 ≤ kindW s) (h2 : kindW s ≤ 3) (hl : 37 ≤ s.length) : [byteI (kindW s)] ++ putB (u64N (slotW s)) 4 ++ (tgtW s).1 ++ s.drop 37 = s := by
  rw [byte_kind h1 h2 (by omega), tgt_val hl]
  unfold slotW
  rw [u64_leNat (k := 4) (by simp; omega) (by decide)]
  have a1 := seg8 s 0 1
  have a2 := seg8 s 1 4
  have a3 := seg8 s 5 32
  rw [List.drop_zero] at a1
  simp only [List.append_assoc]
  rw [← a3, ← a2, ← a1]
/-- bytes that are a message's are just those that it is encoded to -/
theorem enc_dec {s : List UInt8} (h : (decW s).2 = true) : goodW (decW s).1.kind (decW s).1.slot (decW s).1.member (decW s).1.body (decW s).1.bits = true ∧ plainW (decW s).1.kind (decW s).1.slot (decW s).1.target (decW s).1.member (decW s).1.body (decW s).1.bits ++ (decW s).1.tag.1 = s ∧
    (decW s).1.kind = kindW s ∧ (kindW s = 1 → s.length = 63) ∧ (kindW s = 2 → s.length = 55) ∧ (decW s).1.body < 18446744073709551616 ∧ (decW s).1.bits.length ≤ 16 := by
  have ck : ∀ m : MsgP, (chk m).2 = true → chk m = (m, true) ∧ goodW m.kind m.slot m.member m.body m.bits = true := fun m hm => by
    by_cases hg : goodW m.kind m.slot m.member m.body m.bits = true
    · exact ⟨chk_yes hg, hg⟩
    · rw [chk_no (by simpa using hg)] at hm; cases hm
  by_cases h1 : kindW s = 1
  · have e0 : decW s = if s.length = 63 then chk (m1W s) else (MsgP.zero, false) := if_pos h1
    by_cases hn : s.length = 63
    · rw [if_pos hn] at e0
      rw [e0] at h
      obtain ⟨e1, e2⟩ := ck _ h
      rw [e0, e1]
      refine ⟨e2, ?_, rfl, fun _ => hn, fun h2 => by omega, ?_, by simp [m1W]⟩
      · show plainW (kindW s) (slotW s) (tgtW s) (memW s) (bdW s) [] ++ (tagW s 47).1 = s
        have hb : bodyW (kindW s) (memW s) (bdW s) [] = (s.drop 37).take 2 ++ (s.drop 39).take 8 := by
          unfold bodyW memW bdW
          rw [if_pos h1, u64_leNat (k := 2) (by simp; omega) (by decide), put_leNat' _ 8 (by simp; omega)]
        unfold plainW
        rw [hb, tag_val (by omega)]
        have b1 := seg8 s 37 2
        have b2 := seg8 s 39 8
        have b3 : (s.drop 47).take 16 = s.drop 47 := List.take_of_length_le (by simp; omega)
        rw [b3]
        simp only [List.append_assoc]
        rw [← b2, ← b1]
        have := head37 (s := s) (by omega) (by omega) (by omega)
        simp only [List.append_assoc] at this
        exact this
      · show bdW s < _
        unfold bdW
        have := leNat_takeLt (s.drop 39) 8
        omega
    · rw [if_neg hn] at e0; rw [e0] at h; cases h
  · by_cases h2 : kindW s = 2
    · have e0 : decW s = if s.length = 55 then chk (m2W s) else (MsgP.zero, false) := by unfold decW; rw [if_neg h1, if_pos h2]
      by_cases hn : s.length = 55
      · rw [if_pos hn] at e0
        rw [e0] at h
        obtain ⟨e1, e2⟩ := ck _ h
        rw [e0, e1]
        refine ⟨e2, ?_, rfl, fun h3 => by omega, fun _ => hn, by simp [m2W], by simp [m2W]⟩
        show plainW (kindW s) (slotW s) (tgtW s) (memW s) 0 [] ++ (tagW s 39).1 = s
        have hb : bodyW (kindW s) (memW s) 0 [] = (s.drop 37).take 2 := by
          unfold bodyW memW
          rw [if_neg h1, if_pos h2, u64_leNat (k := 2) (by simp; omega) (by decide)]
        unfold plainW
        rw [hb, tag_val (by omega)]
        have b1 := seg8 s 37 2
        have b3 : (s.drop 39).take 16 = s.drop 39 := List.take_of_length_le (by simp; omega)
        rw [b3]
        simp only [List.append_assoc]
        rw [← b1]
        have := head37 (s := s) (by omega) (by omega) (by omega)
        simp only [List.append_assoc] at this
        exact this
      · rw [if_neg hn] at e0; rw [e0] at h; cases h
    · by_cases h3 : kindW s = 3
      · have e0 : decW s = if 53 ≤ s.length ∧ (getB (midW s) 16).isSome = true then chk (m3W s) else (MsgP.zero, false) := by unfold decW; rw [if_neg h1, if_neg h2, if_pos h3]
        by_cases hn : 53 ≤ s.length ∧ (getB (midW s) 16).isSome = true
        · rw [if_pos hn] at e0
          rw [e0] at h
          obtain ⟨e1, e2⟩ := ck _ h
          rw [e0, e1]
          have hbk := getB_back hn.2
          refine ⟨e2, ?_, rfl, fun h4 => by omega, fun h4 => by omega, by simp [m3W], by show (getD' (midW s) 16).length ≤ 16; omega⟩
          show plainW (kindW s) (slotW s) (tgtW s) 0 0 (getD' (midW s) 16) ++ (tagW s (s.length - 16)).1 = s
          have hb : bodyW (kindW s) 0 0 (getD' (midW s) 16) = midW s := by
            unfold bodyW
            rw [if_neg h1, if_neg h2, if_pos h3, hbk.1]
          have hn1 := hn.1
          unfold plainW
          rw [hb, tag_val (by omega)]
          unfold midW
          have b1 := seg8 s 37 (s.length - 53)
          rw [show 37 + (s.length - 53) = s.length - 16 by omega] at b1
          have b3 : (s.drop (s.length - 16)).take 16 = s.drop (s.length - 16) := List.take_of_length_le (by simp; omega)
          rw [b3]
          simp only [List.append_assoc]
          rw [← b1]
          have := head37 (s := s) (by omega) (by omega) (by omega)
          simp only [List.append_assoc] at this
          exact this
        · rw [if_neg hn] at e0; rw [e0] at h; cases h
      · have e0 : decW s = (MsgP.zero, false) := by unfold decW; rw [if_neg h1, if_neg h2, if_neg h3]
        rw [e0] at h; cases h
theorem kind_take {s : List UInt8} {c : Nat} (h : 1 ≤ c) : kindW (s.take c) = kindW s := by
  unfold kindW
  rw [List.take_take, Nat.min_eq_left h]
theorem kind_app {s x : List UInt8} (h : 1 ≤ s.length) : kindW (s ++ x) = kindW s := by
  unfold kindW
  rw [List.take_append_of_le_length h]
theorem dec_nil : decW [] = (MsgP.zero, false) := by decide
/-- of a block, and a vote, no other length is one's -/
theorem dec_less {s : List UInt8} {c : Nat} (h : (decW s).2 = true) (hk : ¬ (decW s).1.kind = 3) (hc : c ≤ s.length) : (decW (s.take c)).2 = decide (c = s.length) := by
  obtain ⟨g1, g2, g3, g4, g5, _⟩ := enc_dec h
  by_cases e : c = s.length
  · subst e; rw [List.take_length, h]; simp
  · rw [decide_eq_false e]
    cases hd : (decW (s.take c)).2 with
    | false => rfl
    | true =>
      exfalso
      obtain ⟨f1, f2, f3, f4, f5, _⟩ := enc_dec hd
      by_cases h0 : c = 0
      · subst h0; rw [List.take_zero, dec_nil] at hd; cases hd
      · rw [kind_take (by omega)] at f4 f5 f3
        have hk3 := goodW_k g1
        rw [g3] at hk3 hk
        have hl : (s.take c).length = c := by rw [List.length_take]; omega
        rw [hl] at f4 f5
        have : kindW s = 1 ∨ kindW s = 2 := by omega
        rcases this with q | q
        · have := g4 q; have := f4 q; omega
        · have := g5 q; have := f5 q; omega
theorem dec_more {s x : List UInt8} (h : (decW s).2 = true) (hk : ¬ (decW s).1.kind = 3) : (decW (s ++ x)).2 = decide (x.length = 0) := by
  obtain ⟨g1, g2, g3, g4, g5, _⟩ := enc_dec h
  by_cases e : x.length = 0
  · have : x = [] := List.eq_nil_of_length_eq_zero e
    subst this
    rw [List.append_nil, h]; simp
  · rw [decide_eq_false e]
    cases hd : (decW (s ++ x)).2 with
    | false => rfl
    | true =>
      exfalso
      obtain ⟨f1, f2, f3, f4, f5, _⟩ := enc_dec hd
      have hk3 := goodW_k g1
      rw [g3] at hk3 hk
      have h12 : kindW s = 1 ∨ kindW s = 2 := by omega
      have hs1 : 1 ≤ s.length := by rcases h12 with q | q; have := g4 q; omega; have := g5 q; omega
      rw [kind_app hs1] at f4 f5
      rw [List.length_append] at f4 f5
      rcases h12 with q | q
      · have := g4 q; have := f4 q; omega
      · have := g5 q; have := f5 q; omega
end Go.SL
namespace Go.SL
theorem stU0 {s : List UInt8} (h : 1 ≤ s.length) : rdUint (stR s 0) 1 = (leNat (s.take 1), stR s 1) := by
  have := stU s 0 1 (by decide) (by omega)
  rwa [List.drop_zero] at this
theorem dec_short {s : List UInt8} (h : s.length < 54) : decW s = (MsgP.zero, false) := by
  unfold decW
  split
  · rw [if_neg (by omega)]
  · split
    · rw [if_neg (by omega)]
    · split
      · rw [if_neg]
        rintro ⟨h1, h2⟩
        have h3 : midW s = [] := by
          unfold midW
          rw [show s.length - 53 = 0 by omega, List.take_zero]
        rw [h3, getB_nil] at h2
        cases h2
      · rfl
theorem mid_rd {s : List UInt8} (h : 53 ≤ s.length) : rdBytes (stR s 37) ((s.length : Int) - 37 - 16) = (midW s, stR s (s.length - 16)) := by
  have e : (s.length : Int) - 37 - 16 = ((s.length - 53 : Nat) : Int) := by omega
  rw [e]
  refine Prod.ext (rdB_val (by omega)) ?_
  rw [rdB_st, show 37 + (s.length - 53) = s.length - 16 by omega]
theorem decW_1 {s : List UInt8} (h : kindW s = 1) : decW s = if s.length = 63 then chk (m1W s) else (MsgP.zero, false) := if_pos h
theorem decW_2 {s : List UInt8} (h1 : ¬ kindW s = 1) (h : kindW s = 2) : decW s = if s.length = 55 then chk (m2W s) else (MsgP.zero, false) := by unfold decW; rw [if_neg h1, if_pos h]
theorem decW_3 {s : List UInt8} (h1 : ¬ kindW s = 1) (h2 : ¬ kindW s = 2) (h : kindW s = 3) : decW s = if 53 ≤ s.length ∧ (getB (midW s) 16).isSome = true then chk (m3W s) else (MsgP.zero, false) := by unfold decW; rw [if_neg h1, if_neg h2, if_pos h]
theorem decW_0 {s : List UInt8} (h1 : ¬ kindW s = 1) (h2 : ¬ kindW s = 2) (h : ¬ kindW s = 3) : decW s = (MsgP.zero, false) := by unfold decW; rw [if_neg h1, if_neg h2, if_neg h]
end Go.SL
namespace Go.SL
theorem dec_bits (s : List UInt8) : (decW s).1.bits.length ≤ 16 := by
  have ck : ∀ m : MsgP, m.bits.length ≤ 16 → (chk m).1.bits.length ≤ 16 := fun m hm => by
    unfold chk
    split
    · exact hm
    · simp [MsgP.zero]
  have c1 : (m1W s).bits.length ≤ 16 := Nat.zero_le _
  have c2 : (m2W s).bits.length ≤ 16 := Nat.zero_le _
  have c0 : (MsgP.zero, false).1.bits.length ≤ 16 := Nat.zero_le _
  unfold decW
  split
  · split
    · exact ck _ c1
    · exact c0
  · split
    · split
      · exact ck _ c2
      · exact c0
    · split
      · split
        · rename_i h
          refine ck _ ?_
          have h9 := (getB_back (most := 16) h.2).2
          show (getD' (midW s) 16).length ≤ 16
          omega
        · exact c0
      · exact c0
theorem same_self (m : MsgP) : sameW m.kind m.slot m.target m.member m.body m.bits m.tag m.kind m.slot m.target m.member m.body m.bits m.tag = true := sameW_iff.2 ⟨rfl, rfl, rfl, rfl, rfl, rfl, rfl⟩
end Go.SL
