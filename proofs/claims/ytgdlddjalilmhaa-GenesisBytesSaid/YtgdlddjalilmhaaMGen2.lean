import Derived.Test.YtgdlddjalilmhaaMGen
import Derived.Test.YtgdlddjalilmhaaMLe
set_option linter.unusedVariables false
set_option linter.unusedSimpArgs false
namespace Go.SL
def numsL (q : Cfg) (n : Nat) : List Int :=
  [q.epoch, 32, q.committee, (if (n : Int) < 16 then n else 16), q.nodes, 256, q.orphans, 64, q.early, 64, q.quota, 64, q.peers, 16, q.bytes, 256, q.window, 64, q.ban, 1048576, q.decay, 1048576, (n : Int), 64]
theorem numsL_len (q : Cfg) (n : Nat) : (numsL q n).length = 24 := rfl
theorem numsC_len (q : Cfg) (n : Nat) : (numsC q n).length = 12 := rfl
theorem nums_at (q : Cfg) (n j : Nat) (h : j < 12) (h1 : 2 * j < (numsL q n).length) (h2 : 2 * j + 1 < (numsL q n).length) (h3 : j < (numsC q n).length) : (numsL q n)[2 * j] = ((numsC q n)[j]).1 ∧ (numsL q n)[2 * j + 1] = ((numsC q n)[j]).2 := by
  match j, h with
  | 0, _ => exact ⟨rfl, rfl⟩
  | 1, _ => exact ⟨rfl, rfl⟩
  | 2, _ => exact ⟨rfl, rfl⟩
  | 3, _ => exact ⟨rfl, rfl⟩
  | 4, _ => exact ⟨rfl, rfl⟩
  | 5, _ => exact ⟨rfl, rfl⟩
  | 6, _ => exact ⟨rfl, rfl⟩
  | 7, _ => exact ⟨rfl, rfl⟩
  | 8, _ => exact ⟨rfl, rfl⟩
  | 9, _ => exact ⟨rfl, rfl⟩
  | 10, _ => exact ⟨rfl, rfl⟩
  | 11, _ => exact ⟨rfl, rfl⟩
theorem contains_all (l : List Bool) : (!l.contains false) = l.all id := by
  induction l with
  | nil => rfl
  | cons b r ih =>
    rw [List.all_cons, ← ih]
    cases b <;> simp
theorem goodC_no {q : Cfg} {xs : List Val} {j : Nat} (hj : j < (numsC q xs.length).length) (h : inR (numsC q xs.length)[j] = false) : goodC q xs = false := by
  unfold goodC
  rw [Bool.and_eq_false_iff]
  right
  rw [List.all_eq_false]
  exact ⟨_, List.getElem_mem hj, by rw [h]; simp⟩
theorem goodC_yes {q : Cfg} {xs : List Val} (h : ∀ j (hj : j < (numsC q xs.length).length), inR (numsC q xs.length)[j] = true) : goodC q xs = (totF 0 xs).isSome := by
  unfold goodC
  have : (numsC q xs.length).all inR = true := by
    rw [List.all_eq_true]
    intro x hx
    obtain ⟨j, hj, rfl⟩ := List.mem_iff_getElem.1 hx
    exact h j hj
  rw [this, Bool.and_true]
/-- what a configuration that can be is like -/
theorem goodC_rg {q : Cfg} {xs : List Val} (h : goodC q xs = true) : (1 ≤ q.epoch ∧ q.epoch ≤ 32) ∧ (1 ≤ xs.length ∧ xs.length ≤ 64) ∧ (∀ v ∈ xs, valOK v = true) := by
  unfold goodC numsC inR at h
  simp at h
  refine ⟨by omega, by omega, ?_⟩
  have h1 := h.1
  rw [totF_iff (by omega) (by omega)] at h1
  by_cases hc : (∀ v ∈ xs, valOK v = true) ∧ 0 + sumV xs < 4611686018427387904
  · exact hc.1
  · rw [if_neg hc] at h1; simp at h1
/-- numbers, as bytes -/
def bytesA (l : List Int) : List UInt8 := l.flatMap fun x => putB (u64N x) 4
def bytesV (l : List Val) : List UInt8 := l.flatMap fun v => putB (u64N v.stake) 8 ++ putB v.key.length 1 ++ v.key
def nums12 (q : Cfg) (n : Nat) : List Int := [q.epoch, q.committee, q.nodes, q.orphans, q.early, q.quota, q.peers, q.bytes, q.window, q.ban, q.decay, (n : Int)]
def bytesC (q : Cfg) (xs : List Val) : List UInt8 := bytesA (nums12 q xs.length) ++ bytesV xs
theorem bytesA_length (l : List Int) : (bytesA l).length = 4 * l.length := by
  induction l with
  | nil => rfl
  | cons x r ih => unfold bytesA at ih ⊢; rw [List.flatMap_cons, List.length_append, ih, putB_length, List.length_cons]; omega
theorem bytesV_length {l : List Val} (h : ∀ v ∈ l, v.key.length ≤ 32) : (bytesV l).length ≤ 41 * l.length := by
  induction l with
  | nil => exact Nat.le_refl _
  | cons x r ih =>
    have h1 := ih fun v hv => h v (List.mem_cons_of_mem _ hv)
    have h2 := h x List.mem_cons_self
    unfold bytesV at h1 ⊢
    simp only [List.flatMap_cons, List.length_append, putB_length, List.length_cons] at h1 ⊢
    omega
theorem bytesA_succ (l : List Int) (i : Nat) (h : i < l.length) : bytesA (l.take (i + 1)) = bytesA (l.take i) ++ putB (u64N l[i]) 4 := by
  unfold bytesA
  rw [List.take_add_one, List.getElem?_eq_getElem h, Option.toList_some, List.flatMap_append]
  simp
theorem bytesV_succ (l : List Val) (i : Nat) (h : i < l.length) : bytesV (l.take (i + 1)) = bytesV (l.take i) ++ putB (u64N l[i].stake) 8 ++ putB l[i].key.length 1 ++ l[i].key := by
  unfold bytesV
  rw [List.take_add_one, List.getElem?_eq_getElem h, Option.toList_some, List.flatMap_append]
  simp
end Go.SL
