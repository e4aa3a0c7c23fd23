/- The reference's words of ways along triangles are the program's. -/
import Derived.Test.YtandgbpbabmdfaaMr
namespace Go.Proofs.Ytandgbpbabmdfaa

/-- One side's part, as the reference reckons it. -/
def alStepR (x y : Int) (s : (Int × Int) × (Int × Int)) : Option ((Int × Int) × (Int × Int)) :=
  if x < 0 ∧ y < 0 then none
  else some (if x < 0 ∧ lessP s.1.1 s.1.2 (-x) (y - x) = true then (-x, y - x) else s.1, if y < 0 ∧ lessP x (x - y) s.2.1 s.2.2 = true then (x, x - y) else s.2)
def alKR (t : Tr) (a b : Pt) : Nat → Option ((Int × Int) × (Int × Int))
  | 0 => some ((0, 1), (1, 1))
  | k + 1 => (alKR t a b k).bind (alStepR (tw (cor t k) (cor t (k + 1)) a) (tw (cor t k) (cor t (k + 1)) b))
def alongR (t : Tr) (a b : Pt) : Bool :=
  if valT t = true ∧ val a = true ∧ val b = true ∧ a ≠ b then
    match alKR t a b 3 with
    | none => false
    | some s => lessP s.1.1 s.1.2 s.2.1 s.2.2
  else false

theorem lessP_iff {a b c d : Int} : lessP a b c d = true ↔ a * d < c * b := by
  unfold lessP; rw [decide_eq_true_eq]; unfold cmpI; (repeat' split) <;> omega

/-- What holds all the way; what is lost. -/
def Inv (s : (Int × Int) × (Int × Int)) : Prop := 0 < s.1.2 ∧ 0 ≤ s.1.1 ∧ 0 < s.2.2 ∧ s.2.1 ≤ s.2.2
def Dead (s : (Int × Int) × (Int × Int)) : Prop := s.1.2 ≤ s.1.1 ∨ s.2.1 ≤ 0

theorem dead_no {s : (Int × Int) × (Int × Int)} (h : Inv s) (d : Dead s) : lessP s.1.1 s.1.2 s.2.1 s.2.2 = false := by
  obtain ⟨⟨p, q⟩, ⟨r, u⟩⟩ := s
  obtain ⟨h1, h2, h3, h4⟩ := h
  dsimp only at h1 h2 h3 h4
  rw [Bool.eq_false_iff, ne_eq, lessP_iff]
  dsimp only
  rcases d with d | d
  · dsimp only at d
    have e1 := Int.mul_le_mul_of_nonneg_right d (Int.le_of_lt h3)
    have e2 := Int.mul_le_mul_of_nonneg_left h4 (Int.le_of_lt h1)
    rw [Int.mul_comm r q]; omega
  · dsimp only at d
    have e1 := Int.mul_nonneg h2 (Int.le_of_lt h3)
    have e2 := Int.mul_nonneg (show 0 ≤ -r by omega) (Int.le_of_lt h1)
    rw [Int.neg_mul] at e2; omega

theorem stepR_inv {x y : Int} {s s' : (Int × Int) × (Int × Int)} (h : Inv s) (hs : alStepR x y s = some s') : Inv s' := by
  unfold alStepR at hs
  split at hs
  · cases hs
  · rename_i n
    obtain rfl := Option.some.inj hs
    obtain ⟨h1, h2, h3, h4⟩ := h
    unfold Inv
    dsimp only
    constructor
    · split
      · dsimp only; omega
      · exact h1
    constructor
    · split
      · dsimp only; omega
      · exact h2
    constructor
    · split
      · dsimp only; omega
      · exact h3
    · split
      · dsimp only; omega
      · exact h4

theorem stepR_dead {x y : Int} {s s' : (Int × Int) × (Int × Int)} (h : Inv s) (d : Dead s) (hs : alStepR x y s = some s') : Dead s' := by
  unfold alStepR at hs
  split at hs
  · cases hs
  · rename_i n
    obtain rfl := Option.some.inj hs
    obtain ⟨⟨p, q⟩, ⟨r, u⟩⟩ := s
    obtain ⟨h1, h2, h3, h4⟩ := h
    dsimp only at h1 h2 h3 h4
    unfold Dead at *
    dsimp only at *
    rcases d with d | d
    · left
      split
      · rename_i k
        exfalso
        have e := lessP_iff.1 k.2
        have e1 := Int.mul_le_mul_of_nonneg_right d (show 0 ≤ y - x by omega)
        have e2 : q * (y - x) < q * (-x) := by rw [Int.mul_comm q (-x)]; omega
        have := Int.lt_of_mul_lt_mul_left e2 (Int.le_of_lt h1)
        omega
      · exact d
    · right
      split
      · rename_i k
        exfalso
        have e := lessP_iff.1 k.2
        have e1 := Int.mul_nonneg (show 0 ≤ -r by omega) (show 0 ≤ x - y by omega)
        have e2 := Int.mul_nonneg (show 0 ≤ x by omega) (Int.le_of_lt h3)
        rw [Int.neg_mul] at e1; omega
      · exact d

/-- A step of the two: alike, or the program has stopped and the reference has lost. -/
theorem step_both {x y : Int} {s : (Int × Int) × (Int × Int)} (h : Inv s) :
    alStep x y s = alStepR x y s ∨ (alStep x y s = none ∧ ∀ s', alStepR x y s = some s' → Dead s') := by
  by_cases c1 : x < 0 ∧ y < 0
  · left
    unfold alStep alStepR
    rw [if_pos (by omega), if_pos c1]
  by_cases c2 : (x < 0 ∧ y ≤ 0) ∨ (x = 0 ∧ y < 0)
  · right
    refine ⟨by unfold alStep; rw [if_pos c2], fun s' hs => ?_⟩
    unfold alStepR at hs
    rw [if_neg c1] at hs
    obtain rfl := Option.some.inj hs
    obtain ⟨⟨p, q⟩, ⟨r, u⟩⟩ := s
    obtain ⟨h1, h2, h3, h4⟩ := h
    dsimp only at h1 h2 h3 h4
    unfold Dead
    dsimp only
    rcases c2 with c2 | c2
    · left
      split
      · dsimp only; omega
      · rename_i k
        have k' : ¬ lessP p q (-x) (y - x) = true := fun e => k ⟨c2.1, e⟩
        rw [lessP_iff] at k'
        obtain rfl : y = 0 := by omega
        dsimp only
        have e : q * (-x) ≤ p * (-x) := by rw [Int.mul_comm q]; simp at k' ⊢; omega
        exact Int.le_of_mul_le_mul_right e (by omega)
    · right
      split
      · dsimp only; omega
      · rename_i k
        have k' : ¬ lessP x (x - y) r u = true := fun e => k ⟨c2.2, e⟩
        rw [lessP_iff] at k'
        obtain ⟨rfl, hy⟩ := c2
        dsimp only
        by_cases hr : r ≤ 0
        · exact hr
        · exfalso
          have := Int.mul_pos (show 0 < r by omega) (show 0 < 0 - y by omega)
          rw [Int.zero_mul] at k'; omega
  · left
    unfold alStep alStepR
    rw [if_neg c2, if_neg c1]
    by_cases hx : x < 0
    · rw [if_pos hx, if_neg (show ¬ (y < 0 ∧ lessP x (x - y) s.2.1 s.2.2 = true) from fun k => by omega)]
      by_cases k : lessP s.1.1 s.1.2 (-x) (y - x) = true
      · rw [if_pos k, if_pos ⟨hx, k⟩]
      · rw [if_neg k, if_neg fun e => k e.2]
    · rw [if_neg hx, if_neg (show ¬ (x < 0 ∧ lessP s.1.1 s.1.2 (-x) (y - x) = true) from fun k => hx k.1)]
      by_cases hy : y < 0
      · rw [if_pos hy]
        by_cases k : lessP x (x - y) s.2.1 s.2.2 = true
        · rw [if_pos k, if_pos ⟨hy, k⟩]
        · rw [if_neg k, if_neg fun e => k e.2]
      · rw [if_neg hy, if_neg (fun e => hy e.1)]

theorem al_both (t : Tr) (a b : Pt) (k : Nat) :
    (alK t a b k = alKR t a b k ∧ ∀ s, alKR t a b k = some s → Inv s) ∨ (alK t a b k = none ∧ ∀ s, alKR t a b k = some s → Inv s ∧ Dead s) := by
  induction k with
  | zero => left; exact ⟨rfl, fun s h => by obtain rfl := Option.some.inj h; unfold Inv; decide⟩
  | succ k ih =>
    have e1 : alK t a b (k + 1) = (alK t a b k).bind (alStep (tw (cor t k) (cor t (k + 1)) a) (tw (cor t k) (cor t (k + 1)) b)) := rfl
    have e2 : alKR t a b (k + 1) = (alKR t a b k).bind (alStepR (tw (cor t k) (cor t (k + 1)) a) (tw (cor t k) (cor t (k + 1)) b)) := rfl
    rw [e1, e2]
    generalize tw (cor t k) (cor t (k + 1)) a = x
    generalize tw (cor t k) (cor t (k + 1)) b = y
    rcases ih with ⟨i1, i2⟩ | ⟨i1, i2⟩
    · rw [i1]
      cases hR : alKR t a b k with
      | none => left; exact ⟨rfl, fun s h => by cases h⟩
      | some s =>
        have iv := i2 s hR
        simp only [Option.bind_some]
        rcases step_both (x := x) (y := y) iv with j | ⟨j1, j2⟩
        · left; exact ⟨j, fun s' h => stepR_inv iv h⟩
        · right; exact ⟨j1, fun s' h => ⟨stepR_inv iv h, j2 s' h⟩⟩
    · right
      rw [i1]
      refine ⟨rfl, fun s' h => ?_⟩
      cases hR : alKR t a b k with
      | none => rw [hR] at h; cases h
      | some s =>
        rw [hR] at h
        obtain ⟨iv, dd⟩ := i2 s hR
        exact ⟨stepR_inv iv h, stepR_dead iv dd h⟩

theorem alongR_eq (t : Tr) (a b : Pt) : alongR t a b = along t a b := by
  unfold alongR along
  split
  · rcases al_both t a b 3 with ⟨h1, h2⟩ | ⟨h1, h2⟩
    · rw [h1]; cases alKR t a b 3 <;> rfl
    · rw [h1]
      cases hR : alKR t a b 3 with
      | none => rfl
      | some s =>
        obtain ⟨iv, dd⟩ := h2 s hR
        exact dead_no iv dd
  · rfl

theorem alKR_none {t : Tr} {a b : Pt} {k : Nat} (h : alKR t a b k = none) : ∀ j, k ≤ j → alKR t a b j = none := by
  intro j hj
  induction j with
  | zero => obtain rfl : k = 0 := by omega
            exact h
  | succ j ih =>
    by_cases e : k = j + 1
    · rw [← e]; exact h
    · simp only [alKR]; rw [ih (by omega)]; rfl
theorem alongR_no {t : Tr} {a b : Pt} (h : ¬ (valT t = true ∧ val a = true ∧ val b = true ∧ a ≠ b)) : alongR t a b = false := by unfold alongR; rw [if_neg h]
theorem alongR_yes {t : Tr} {a b : Pt} (h : valT t = true ∧ val a = true ∧ val b = true ∧ a ≠ b) {s : (Int × Int) × (Int × Int)} (hs : alKR t a b 3 = some s) : alongR t a b = lessP s.1.1 s.1.2 s.2.1 s.2.2 := by unfold alongR; rw [if_pos h, hs]
theorem alongR_none {t : Tr} {a b : Pt} (h : alKR t a b 3 = none) : alongR t a b = false := by
  unfold alongR; split
  · rw [h]
  · rfl

end Go.Proofs.Ytandgbpbabmdfaa
