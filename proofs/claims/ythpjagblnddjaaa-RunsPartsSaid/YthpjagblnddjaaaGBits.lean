/- Rows of 64 marks and numbers below 2^64: what bureauref01's Marks and Label come to. Plain Lean. -/
import Derived.Test.YthpjagblnddjaaaWWords
namespace Go.Proofs.Ythpjagblnddjaaa.PAll
set_option linter.unusedVariables false

def marksTo (n k : Nat) : List Bool := (List.range 64).map (fun i => decide (i < k) && n.testBit i)
def marksN (n : Nat) : List Bool := (List.range 64).map (fun i => n.testBit i)
def ofBits : List Bool → Nat
  | [] => 0
  | b :: l => 2 * ofBits l + b.toNat

theorem marksTo_len (n k : Nat) : (marksTo n k).length = 64 := by simp [marksTo]
theorem marksN_len (n : Nat) : (marksN n).length = 64 := by simp [marksN]
theorem marksTo_zero (n : Nat) : marksTo n 0 = List.replicate 64 false := by simp [marksTo]; rfl
theorem marksTo_all (n : Nat) : marksTo n 64 = marksN n := by
  unfold marksTo marksN
  apply List.map_congr_left
  intro i hi
  simp [List.mem_range.1 hi]
theorem marksTo_set (n k : Nat) (hk : k < 64) : (marksTo n k).set k (n.testBit k) = marksTo n (k + 1) := by
  apply List.ext_getElem?
  intro i
  rw [List.getElem?_set]
  unfold marksTo
  simp only [List.getElem?_map, List.length_map, List.length_range]
  by_cases hi : i < 64
  · rw [List.getElem?_range hi]
    by_cases h : k = i
    · subst h; simp [hk]
    · have : decide (i < k) = decide (i < k + 1) := by rw [decide_eq_decide]; omega
      rw [if_neg h, Option.map_some, Option.map_some, this]
  · rw [List.getElem?_eq_none (by simpa using hi), if_neg (by omega)]; rfl

theorem ofBits_testBit (l : List Bool) : ∀ i, (ofBits l).testBit i = l.getD i false := by
  induction l with
  | nil => intro i; simp [ofBits]
  | cons b l ih =>
    intro i
    cases i with
    | zero => cases b <;> simp [ofBits, Nat.testBit_zero] <;> omega
    | succ i =>
      have : (2 * ofBits l + b.toNat) / 2 = ofBits l := by cases b <;> simp <;> omega
      rw [ofBits, Nat.testBit_succ, this, ih i]
      simp
theorem ofBits_lt (l : List Bool) : ofBits l < 2 ^ l.length := by
  induction l with
  | nil => simp [ofBits]
  | cons b l ih =>
    have : b.toNat ≤ 1 := by cases b <;> simp
    simp only [ofBits, List.length_cons, Nat.pow_succ]
    omega
theorem marksN_getD (n i : Nat) (hi : i < 64) : (marksN n).getD i false = n.testBit i := by
  unfold marksN
  rw [List.getD_eq_getElem?_getD, List.getElem?_map, List.getElem?_range hi]
  rfl
theorem ofBits_eq (l : List Bool) (m : Nat) (hl : l.length = 64) (hm : m < 2 ^ 64) (h : ∀ i, i < 64 → l.getD i false = m.testBit i) : ofBits l = m := by
  apply Nat.eq_of_testBit_eq
  intro i
  rw [ofBits_testBit]
  by_cases hi : i < 64
  · exact h i hi
  · rw [List.getD_eq_getElem?_getD, List.getElem?_eq_none (by omega)]
    exact (Nat.testBit_lt_two_pow (Nat.lt_of_lt_of_le hm (Nat.pow_le_pow_right (by decide) (by omega)))).symm

def orTo (a b k : Nat) : List Bool := (List.range 64).map (fun i => decide (i < k) && (a.testBit i || b.testBit i))
theorem orTo_len (a b k : Nat) : (orTo a b k).length = 64 := by simp [orTo]
theorem orTo_zero (a b : Nat) : orTo a b 0 = List.replicate 64 false := by simp [orTo]; rfl
theorem orTo_set (a b k : Nat) (hk : k < 64) : (orTo a b k).set k (a.testBit k || b.testBit k) = orTo a b (k + 1) := by
  apply List.ext_getElem?
  intro i
  rw [List.getElem?_set]
  unfold orTo
  simp only [List.getElem?_map, List.length_map, List.length_range]
  by_cases hi : i < 64
  · rw [List.getElem?_range hi]
    by_cases h : k = i
    · subst h; simp [hk]
    · have : decide (i < k) = decide (i < k + 1) := by rw [decide_eq_decide]; omega
      rw [if_neg h, Option.map_some, Option.map_some, this]
  · rw [List.getElem?_eq_none (by simpa using hi), if_neg (by omega)]; rfl
theorem orTo_all (a b : Nat) (ha : a < 2 ^ 64) (hb : b < 2 ^ 64) : ofBits (orTo a b 64) = a ||| b := by
  refine ofBits_eq _ _ (orTo_len _ _ _) (Nat.or_lt_two_pow ha hb) (fun i hi => ?_)
  unfold orTo
  rw [List.getD_eq_getElem?_getD, List.getElem?_map, List.getElem?_range hi]
  simp [hi]

/-- The marks of s, and behind k also those of x. -/
def joinTo (s x k : Nat) : List Bool := (List.range 64).map (fun i => s.testBit i || (decide (i < k) && x.testBit i))
theorem joinTo_len (a b k : Nat) : (joinTo a b k).length = 64 := by simp [joinTo]
theorem joinTo_zero (a b : Nat) : joinTo a b 0 = marksN a := by simp [joinTo, marksN]
theorem joinTo_set (a b k : Nat) (hk : k < 64) : (joinTo a b k).set k (a.testBit k || b.testBit k) = joinTo a b (k + 1) := by
  apply List.ext_getElem?
  intro i
  rw [List.getElem?_set]
  unfold joinTo
  simp only [List.getElem?_map, List.length_map, List.length_range]
  by_cases hi : i < 64
  · rw [List.getElem?_range hi]
    by_cases h : k = i
    · subst h; simp [hk]
    · have : decide (i < k) = decide (i < k + 1) := by rw [decide_eq_decide]; omega
      rw [if_neg h, Option.map_some, Option.map_some, this]
  · rw [List.getElem?_eq_none (by simpa using hi), if_neg (by omega)]; rfl
theorem joinTo_getD (a b k i : Nat) (hi : i < 64) : (joinTo a b k).getD i false = (a.testBit i || (decide (i < k) && b.testBit i)) := by
  unfold joinTo
  rw [List.getD_eq_getElem?_getD, List.getElem?_map, List.getElem?_range hi]
  rfl
theorem joinTo_all (a b : Nat) : joinTo a b 64 = marksN (a ||| b) := by
  unfold joinTo marksN
  apply List.map_congr_left
  intro i hi
  simp [List.mem_range.1 hi]
theorem ofBits_marksN (n : Nat) (hn : n < 2 ^ 64) : ofBits (marksN n) = n := ofBits_eq _ _ (marksN_len n) hn (fun i hi => marksN_getD n i hi)
theorem marksN_zero : marksN 0 = List.replicate 64 false := by simp [marksN]; rfl
end Go.Proofs.Ythpjagblnddjaaa.PAll
