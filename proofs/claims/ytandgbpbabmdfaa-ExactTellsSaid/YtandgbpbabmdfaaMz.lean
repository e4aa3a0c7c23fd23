/- The laws of segments: points of a line, how two meet. -/
import Derived.Test.YtandgbpbabmdfaaMy
namespace Go.Proofs.Ytandgbpbabmdfaa

/-- The law ExactLines: b a step on, c k steps on. -/
theorem lines_law {a b c : Pt} {x y k : Int} (va : val a = true) (vb : val b = true) (vc : val c = true) (hk : 1 ≤ k) (eb : b = ⟨a.x + x, a.y + y⟩) (ec : c = ⟨a.x + x * k, a.y + y * k⟩) :
    ori a b c = 0 ∧ onE b a c = true ∧ onE a a c = true ∧ onE c a b = decide (b = c) ∧ cmpP a b = cmpP a c := by
  have t0 : tw a b c = 0 := by rw [eb, ec]; unfold tw; dsimp only; grind
  have o1 : ori a b c = 0 := (ori_zero va vb vc).2 t0
  have o2 : ori a c b = 0 := by have := ori_swap2 a b c; omega
  have o3 : ori a c a = 0 := (ori_zero va vc va).2 (by unfold tw; grind)
  have lx : (0 < x → x ≤ x * k) ∧ (x < 0 → x * k ≤ x) ∧ (x = 0 → x * k = 0) := by
    refine ⟨fun h => ?_, fun h => ?_, fun h => by rw [h, Int.zero_mul]⟩
    · have := Int.mul_le_mul_of_nonneg_left hk (Int.le_of_lt h); omega
    · have := Int.mul_le_mul_of_nonpos_left (Int.le_of_lt h) hk; omega
  have ly : (0 < y → y ≤ y * k) ∧ (y < 0 → y * k ≤ y) ∧ (y = 0 → y * k = 0) := by
    refine ⟨fun h => ?_, fun h => ?_, fun h => by rw [h, Int.zero_mul]⟩
    · have := Int.mul_le_mul_of_nonneg_left hk (Int.le_of_lt h); omega
    · have := Int.mul_le_mul_of_nonpos_left (Int.le_of_lt h) hk; omega
  have kx : k = 1 → x * k = x := by rintro rfl; omega
  have ky : k = 1 → y * k = y := by rintro rfl; omega
  have lx2 : k ≠ 1 → (0 < x → x < x * k) ∧ (x < 0 → x * k < x) := by
    intro hn
    refine ⟨fun h => ?_, fun h => ?_⟩
    · have := Int.mul_le_mul_of_nonneg_left (show 2 ≤ k by omega) (Int.le_of_lt h); omega
    · have := Int.mul_le_mul_of_nonpos_left (Int.le_of_lt h) (show 2 ≤ k by omega); omega
  have ly2 : k ≠ 1 → (0 < y → y < y * k) ∧ (y < 0 → y * k < y) := by
    intro hn
    refine ⟨fun h => ?_, fun h => ?_⟩
    · have := Int.mul_le_mul_of_nonneg_left (show 2 ≤ k by omega) (Int.le_of_lt h); omega
    · have := Int.mul_le_mul_of_nonpos_left (Int.le_of_lt h) (show 2 ≤ k by omega); omega
  generalize x * k = X at *
  generalize y * k = Y at *
  have p1 := cmpP_pos a b; have p2 := cmpP_neg a b
  have p3 := cmpP_pos a c; have p4 := cmpP_neg a c
  have p5 := cmpP_pos b c; have p6 := cmpP_neg b c
  have p7 := cmpP_anti c b
  have q1 := cmpP_cases a b; have q2 := cmpP_cases a c; have q3 := cmpP_cases b c
  have za := (cmpP_zero a a).2 rfl
  have zac := cmpP_zero a c; have zab := cmpP_zero a b; have zbc := cmpP_zero b c
  have bx : b.x = a.x + x := by rw [eb]
  have by' : b.y = a.y + y := by rw [eb]
  have cx : c.x = a.x + X := by rw [ec]
  have cy : c.y = a.y + Y := by rw [ec]
  have s : cmpP a b = cmpP a c := by omega
  have s2 : cmpP b c = 0 ∨ cmpP b c = cmpP a b := by omega
  have s0 : cmpP a b = 0 → cmpP b c = 0 := by omega
  refine ⟨o1, ?_, ?_, ?_, s⟩
  · refine onE_iff.2 ⟨vb, va, vc, o2, ?_, ?_⟩
    · rcases q1 with h | h | h <;> rcases s2 with h2 | h2 <;> rw [h2] <;> rw [h] <;> decide
    · by_cases e : a = c
      · exact .inr (zab.1 (by rw [s]; exact zac.2 e)).symm
      · exact .inl e
  · exact onE_iff.2 ⟨va, va, vc, o3, by rw [za, Int.zero_mul]; decide, .inr rfl⟩
  · by_cases e : b = c
    · rw [decide_eq_true e]
      have zcb : cmpP c b = 0 := by rw [e]; exact (cmpP_zero c c).2 rfl
      refine onE_iff.2 ⟨vc, va, vb, o1, by rw [zcb, Int.mul_zero]; decide, ?_⟩
      by_cases e2 : a = b
      · exact .inr (by rw [← e, ← e2])
      · exact .inl e2
    · rw [decide_eq_false e, Bool.eq_false_iff]
      intro h
      obtain ⟨_, _, _, _, h5, _⟩ := onE_iff.1 h
      have n0 : cmpP b c ≠ 0 := fun k => e (zbc.1 k)
      have n1 : cmpP b c = cmpP a b := by omega
      rw [← s, show cmpP c b = -cmpP a b by omega] at h5
      rcases q1 with g | g | g <;> rw [g] at h5
      · omega
      · omega
      · omega

/-- Three and three on a line: the four are. -/
theorem lines4 {a b c d : Pt} (h : a ≠ b) (h1 : tw a b c = 0) (h2 : tw a b d = 0) : tw c d a = 0 ∧ tw c d b = 0 := by
  have e1 : (b.x - a.x) * tw c d a = 0 := by unfold tw at *; grind
  have e2 : (b.y - a.y) * tw c d a = 0 := by unfold tw at *; grind
  have e3 : tw c d b = tw c d a - tw a b d + tw a b c := by unfold tw; grind
  have z : tw c d a = 0 := by
    rcases Int.mul_eq_zero.1 e1 with u | u
    · rcases Int.mul_eq_zero.1 e2 with v | v
      · exact absurd ⟨by omega, by omega⟩ (pt_ne h)
      · exact v
    · exact u
  exact ⟨z, by omega⟩

theorem meet_swap1 (a b c d : Pt) : meet b a c d = meet a b c d := by
  unfold meet
  have o1 := ori_swap a b c
  have o2 := ori_swap a b d
  have e1 : ori b a c * ori b a d = ori a b c * ori a b d := by rw [o1, o2]; grind
  have e2 : ori c d b * ori c d a = ori c d a * ori c d b := Int.mul_comm _ _
  rw [e1, e2, onE_swap c a b, onE_swap d a b]
  have i : inl b a c d = inl a b c d := by rw [inl_eq, inl_eq, loP_eq b a, hiP_eq b a]
  rw [i]
  congr 1
  · rw [eq_iff_iff]; grind
  · congr 1
    · rw [eq_iff_iff]; omega
    · congr 1
      congr 1
      · rw [eq_iff_iff]; grind
      · congr 1
        rw [eq_iff_iff]; grind

end Go.Proofs.Ytandgbpbabmdfaa
