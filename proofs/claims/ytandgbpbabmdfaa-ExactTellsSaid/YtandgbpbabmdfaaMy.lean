/- The words of segments as the program reckons them. -/
import Derived.Test.YtandgbpbabmdfaaMx
namespace Go.Proofs.Ytandgbpbabmdfaa

/-- Is a point of a segment? -/
def onE (p a b : Pt) : Bool := val p && val a && val b && decide (ori a b p = 0) && decide (0 ≤ cmpP a p * cmpP p b) && (decide (a ≠ b) || decide (p = a))
/-- The lesser, the greater of two. -/
def loP (p q : Pt) : Pt := if cmpP p q > 0 then q else p
def hiP (p q : Pt) : Pt := if cmpP p q > 0 then p else q
/-- Two segments of one line. -/
def inl (a b c d : Pt) : Int :=
  if cmpP (if cmpP (loP c d) (loP a b) > 0 then loP c d else loP a b) (if cmpP (hiP c d) (hiP a b) < 0 then hiP c d else hiP a b) < 0 then 3 else 0
/-- How two segments meet. -/
def meet (a b c d : Pt) : Int :=
  if ¬ (val a = true ∧ val b = true ∧ val c = true ∧ val d = true) ∨ a = b ∨ c = d then 0
  else if ori a b c = 0 ∧ ori a b d = 0 then inl a b c d
  else if ori a b c * ori a b d < 0 ∧ ori c d a * ori c d b < 0 then 1
  else if a = c ∨ a = d ∨ b = c ∨ b = d then 0
  else if onE c a b = true ∨ onE d a b = true ∨ onE a c d = true ∨ onE b c d = true then 2
  else 0

theorem loP_eq (p q : Pt) : loP p q = loP q p := by
  have h1 := cmpP_anti p q
  have h2 := cmpP_zero p q
  unfold loP
  rcases cmpP_cases p q with h | h | h
  · rw [h2.1 h]
  · rw [if_pos (by omega), if_neg (by omega)]
  · rw [if_neg (by omega), if_pos (by omega)]
theorem hiP_eq (p q : Pt) : hiP p q = hiP q p := by
  have h1 := cmpP_anti p q
  have h2 := cmpP_zero p q
  unfold hiP
  rcases cmpP_cases p q with h | h | h
  · rw [h2.1 h]
  · rw [if_pos (by omega), if_neg (by omega)]
  · rw [if_neg (by omega), if_pos (by omega)]
theorem pick_hi (p q : Pt) : (if cmpP p q > 0 then p else q) = hiP p q := rfl
theorem pick_lo (p q : Pt) : (if cmpP p q < 0 then p else q) = loP p q := by
  have h1 := cmpP_zero p q
  unfold loP
  rcases cmpP_cases p q with h | h | h
  · rw [h1.1 h]; split <;> split <;> rfl
  · rw [if_neg (by omega), if_pos (by omega)]
  · rw [if_pos (by omega), if_neg (by omega)]
theorem inl_eq (a b c d : Pt) : inl a b c d = if cmpP (hiP (loP c d) (loP a b)) (loP (hiP c d) (hiP a b)) < 0 then 3 else 0 := by
  unfold inl; rw [pick_hi, pick_lo]

theorem onE_swap (p a b : Pt) : onE p b a = onE p a b := by
  have h1 := cmpP_anti a p
  have h2 := cmpP_anti p b
  have h3 := ori_swap a b p
  unfold onE
  have e1 : cmpP b p * cmpP p a = cmpP a p * cmpP p b := by
    have : cmpP b p = -cmpP p b := by omega
    have : cmpP p a = -cmpP a p := by omega
    grind
  rw [e1, h3, show decide (-ori a b p = 0) = decide (ori a b p = 0) by rw [decide_eq_decide]; omega]
  have e2 : (decide (b ≠ a) || decide (p = b)) = (decide (a ≠ b) || decide (p = a)) := by
    by_cases h : a = b
    · subst h; rfl
    · rw [decide_eq_true h, decide_eq_true (Ne.symm h)]; rfl
  rw [e2]
  cases val p <;> cases val a <;> cases val b <;> rfl

theorem onE_iff {p a b : Pt} : onE p a b = true ↔ val p = true ∧ val a = true ∧ val b = true ∧ ori a b p = 0 ∧ 0 ≤ cmpP a p * cmpP p b ∧ (a ≠ b ∨ p = a) := by
  unfold onE; simp only [Bool.and_eq_true, Bool.or_eq_true, decide_eq_true_eq, and_assoc]

end Go.Proofs.Ytandgbpbabmdfaa
