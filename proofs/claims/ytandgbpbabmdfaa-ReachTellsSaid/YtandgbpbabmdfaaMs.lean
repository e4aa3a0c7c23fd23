/- The words of windows against triangles. -/
import Derived.Test.YtandgbpbabmdfaaMr
import Derived.Test.YtandgbpbabmdfaaMm
namespace Go.Proofs.Ytandgbpbabmdfaa

/-- Are all four corners of a window on the right of a side? -/
def edR (t : Tr) (x0 y0 x1 y1 : Int) (k : Nat) : Bool :=
  decide (ori (cor t k) (cor t (k + 1)) ⟨x0, y0⟩ < 0) && decide (ori (cor t k) (cor t (k + 1)) ⟨x1, y0⟩ < 0) && decide (ori (cor t k) (cor t (k + 1)) ⟨x1, y1⟩ < 0) && decide (ori (cor t k) (cor t (k + 1)) ⟨x0, y1⟩ < 0)
/-- Is that so of none of the first k sides? -/
def noR (t : Tr) (x0 y0 x1 y1 : Int) : Nat → Bool
  | 0 => true
  | k + 1 => noR t x0 y0 x1 y1 k && !edR t x0 y0 x1 y1 k
/-- Do a triangle and a window have a point in common: no line parts them. -/
def ovl (t : Tr) (x0 y0 x1 y1 : Int) : Bool :=
  valT t && win x0 y0 x1 y1 && !decide (mx (mx t.a.x t.b.x) t.c.x < x0) && !decide (x1 < mn (mn t.a.x t.b.x) t.c.x) && !decide (mx (mx t.a.y t.b.y) t.c.y < y0) && !decide (y1 < mn (mn t.a.y t.b.y) t.c.y) && noR t x0 y0 x1 y1 3

theorem noR_false {t : Tr} {x0 y0 x1 y1 : Int} {k : Nat} (h : edR t x0 y0 x1 y1 k = true) : ∀ j, k < j → noR t x0 y0 x1 y1 j = false := by
  intro j hj
  induction j with
  | zero => omega
  | succ j ih =>
    simp only [noR]
    by_cases e : k = j
    · subst e; rw [h]; simp
    · rw [ih (by omega)]; rfl
theorem edR_at (t : Tr) (x0 y0 x1 y1 : Int) (k : Nat) : edR t x0 y0 x1 y1 k = (decide (ori ⟨(cor t k).x, (cor t k).y⟩ ⟨(cor t (k + 1)).x, (cor t (k + 1)).y⟩ ⟨x0, y0⟩ < 0) && decide (ori ⟨(cor t k).x, (cor t k).y⟩ ⟨(cor t (k + 1)).x, (cor t (k + 1)).y⟩ ⟨x1, y0⟩ < 0) &&
  decide (ori ⟨(cor t k).x, (cor t k).y⟩ ⟨(cor t (k + 1)).x, (cor t (k + 1)).y⟩ ⟨x1, y1⟩ < 0) && decide (ori ⟨(cor t k).x, (cor t k).y⟩ ⟨(cor t (k + 1)).x, (cor t (k + 1)).y⟩ ⟨x0, y1⟩ < 0)) := rfl

end Go.Proofs.Ytandgbpbabmdfaa
