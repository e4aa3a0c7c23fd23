/- The words of windows and ways. -/
import Derived.Test.YtandgbpbabmdfaaMg
namespace Go.Proofs.Ytandgbpbabmdfaa

/-- One place of a way is ahead of another: by products. -/
def lessP (pn po qn qo : Int) : Bool := decide (cmpI (pn * qo) (qn * po) < 0)

/-- May a window be? -/
def win (x0 y0 x1 y1 : Int) : Bool := val ⟨x0, y0⟩ && val ⟨x1, y1⟩ && decide (x0 ≤ x1) && decide (y0 ≤ y1)

/-- One side's part in the way's part: from, to. -/
def alStep (x y : Int) (s : (Int × Int) × (Int × Int)) : Option ((Int × Int) × (Int × Int)) :=
  if (x < 0 ∧ y ≤ 0) ∨ (x = 0 ∧ y < 0) then none
  else if x < 0 then some (if lessP s.1.1 s.1.2 (-x) (y - x) = true then (-x, y - x) else s.1, s.2)
  else if y < 0 then some (s.1, if lessP x (x - y) s.2.1 s.2.2 = true then (x, x - y) else s.2)
  else some s

/-- What is left of a way behind k sides. -/
def alK (t : Tr) (a b : Pt) : Nat → Option ((Int × Int) × (Int × Int))
  | 0 => some ((0, 1), (1, 1))
  | k + 1 => (alK t a b k).bind (alStep (tw (cor t k) (cor t (k + 1)) a) (tw (cor t k) (cor t (k + 1)) b))

/-- Along, as the program reckons it. -/
def along (t : Tr) (a b : Pt) : Bool :=
  if valT t = true ∧ val a = true ∧ val b = true ∧ a ≠ b then
    match alK t a b 3 with
    | none => false
    | some s => lessP s.1.1 s.1.2 s.2.1 s.2.2
  else false

theorem alK_none {t : Tr} {a b : Pt} {k : Nat} (h : alK t a b k = none) : ∀ j, k ≤ j → alK t a b j = none := by
  intro j hj
  induction j with
  | zero => obtain rfl : k = 0 := by omega
            exact h
  | succ j ih =>
    by_cases e : k = j + 1
    · rw [← e]; exact h
    · simp only [alK]; rw [ih (by omega)]; rfl

theorem along_no {t : Tr} {a b : Pt} (h : ¬ (valT t = true ∧ val a = true ∧ val b = true ∧ a ≠ b)) : along t a b = false := by unfold along; rw [if_neg h]
theorem along_yes {t : Tr} {a b : Pt} (h : valT t = true ∧ val a = true ∧ val b = true ∧ a ≠ b) {s : (Int × Int) × (Int × Int)} (hs : alK t a b 3 = some s) : along t a b = lessP s.1.1 s.1.2 s.2.1 s.2.2 := by unfold along; rw [if_pos h, hs]
theorem along_none {t : Tr} {a b : Pt} (h : alK t a b 3 = none) : along t a b = false := by
  unfold along; split
  · rw [h]
  · rfl

theorem tw_bd {a b c : Pt} (ha : val a = true) (hb : val b = true) (hc : val c = true) : -562949953421312 ≤ tw a b c ∧ tw a b c ≤ 562949953421312 := by
  obtain ⟨x1, x2, x3, x4⟩ := val_true ha
  obtain ⟨y1, y2, y3, y4⟩ := val_true hb
  obtain ⟨u1, u2, u3, u4⟩ := val_true hc
  obtain ⟨m1, m2⟩ := mul_bd (a := b.x - a.x) (b := c.y - a.y) (by omega) (by omega) (by omega) (by omega)
  obtain ⟨m3, m4⟩ := mul_bd (a := b.y - a.y) (b := c.x - a.x) (by omega) (by omega) (by omega) (by omega)
  unfold tw; omega

theorem cor_val {t : Tr} (h : valT t = true) (i : Int) : val (cor t i) = true := by
  obtain ⟨a, b, c⟩ := valT_vals h
  unfold cor; (repeat' split) <;> assumption

end Go.Proofs.Ytandgbpbabmdfaa
