/- The reference's words of segments are the program's. -/
import Derived.Test.YtandgbpbabmdfaaNa
namespace Go.Proofs.Ytandgbpbabmdfaa

/-- An end within the other segment. -/
def touch (p a b : Pt) : Int := if onS p a b = true ∧ p ≠ a ∧ p ≠ b then 2 else 0
def meetR (a b c d : Pt) : Int :=
  if ¬ (val a = true ∧ val b = true ∧ val c = true ∧ val d = true) ∨ a = b ∨ c = d then 0
  else if ori a b c = 0 ∧ ori a b d = 0 then (if cmpP (hiP (loP a b) (loP c d)) (loP (hiP a b) (hiP c d)) < 0 then 3 else 0)
  else if ori a b c * ori a b d < 0 ∧ ori c d a * ori c d b < 0 then 1
  else max (max (max (touch a c d) (touch b c d)) (touch c a b)) (touch d a b)

theorem onS_swap (p a b : Pt) : onS p b a = onS p a b := by
  unfold onS
  have e1 : decide (tw b a p = 0) = decide (tw a b p = 0) := by
    rw [decide_eq_decide]; have := tw_swap a b p; omega
  have e2 : decide (min b.x a.x ≤ p.x ∧ p.x ≤ max b.x a.x) = decide (min a.x b.x ≤ p.x ∧ p.x ≤ max a.x b.x) := by rw [decide_eq_decide]; omega
  have e3 : decide (min b.y a.y ≤ p.y ∧ p.y ≤ max b.y a.y) = decide (min a.y b.y ≤ p.y ∧ p.y ≤ max a.y b.y) := by rw [decide_eq_decide]; omega
  rw [e1, e2, e3]
  cases val p <;> cases val a <;> cases val b <;> rfl

/-- On a line, the y lies between as the x does. -/
theorem between_y {D E m q : Int} (hD : 0 < D) (h0 : 0 ≤ m) (h1 : m ≤ D) (he : D * q = E * m) : (0 ≤ q ∧ q ≤ E) ∨ (E ≤ q ∧ q ≤ 0) := by
  rcases Int.le_total 0 E with s | s
  · left
    refine div_between hD ?_ ?_
    · rw [he]; exact Int.mul_nonneg s h0
    · rw [he, Int.mul_comm D E]; exact Int.mul_le_mul_of_nonneg_left h1 s
  · right
    have := div_between (x := -E) (d := D) (q := -q) hD (by
      rw [Int.mul_neg, he, ← Int.neg_mul]; exact Int.mul_nonneg (by omega) h0) (by
      rw [Int.mul_neg, he, Int.mul_neg, Int.mul_comm D E]
      have := Int.mul_le_mul_of_nonpos_left s h1; omega)
    omega

/-- One way round. -/
theorem on_one {p a b : Pt} (vp : val p = true) (va : val a = true) (vb : val b = true) (h : cmpP a b < 0) : onE p a b = true ↔ onS p a b = true := by
  rw [onE_iff, onS_iff vp va vb]
  have z := ori_zero va vb vp
  have k1 := cmpP_neg a b
  have k2 := cmpP_neg a p; have k3 := cmpP_pos a p
  have k4 := cmpP_neg p b; have k5 := cmpP_pos p b
  have c1 := cmpP_cases a p; have c2 := cmpP_cases p b
  have y1 := cmpP_neg p a
  have ab : a ≠ b := by rintro rfl; rw [(cmpP_zero a a).2 rfl] at h; omega
  have tr : cmpP a p ≤ 0 → cmpP p b ≤ 0 → 0 ≤ cmpP a p * cmpP p b := fun g1 g2 => Int.mul_nonneg_of_nonpos_of_nonpos g1 g2
  constructor
  · rintro ⟨_, _, _, ho, hm, _⟩
    have t0 := z.1 ho
    -- neither is beyond
    have n1 : cmpP a p ≤ 0 := by
      rcases c1 with e | e | e
      · omega
      · exfalso
        have : cmpP p b < 0 := by
          have q : cmpP p a < 0 := by have := cmpP_anti a p; omega
          exact cmpP_lt_trans q h
        have : cmpP p b = -1 := by omega
        rw [e, this] at hm; omega
      · omega
    have n2 : cmpP p b ≤ 0 := by
      rcases c2 with e | e | e
      · omega
      · exfalso
        have : cmpP a p < 0 := by
          have q : cmpP b p < 0 := by have := cmpP_anti p b; omega
          exact cmpP_lt_trans h q
        have : cmpP a p = -1 := by omega
        rw [e, this] at hm; omega
      · omega
    have x1 : a.x ≤ p.x := by omega
    have x2 : p.x ≤ b.x := by omega
    refine ⟨t0, by omega, ?_⟩
    by_cases e : a.x = b.x
    · omega
    · have := between_y (D := b.x - a.x) (E := b.y - a.y) (m := p.x - a.x) (q := p.y - a.y) (by omega) (by omega) (by omega) (by unfold tw at t0; omega)
      omega
  · rintro ⟨t0, hx, hy⟩
    refine ⟨vp, va, vb, z.2 t0, ?_, .inl ab⟩
    have x1 : a.x ≤ p.x := by omega
    have x2 : p.x ≤ b.x := by omega
    have eq0 : p.x = a.x → a.x < b.x → p.y = a.y := by
      intro g1 g2
      have : (b.x - a.x) * (p.y - a.y) = 0 := by
        have e : (b.x - a.x) * (p.y - a.y) = tw a b p + (b.y - a.y) * (p.x - a.x) := by unfold tw; grind
        rw [e, t0, g1]; simp
      rcases Int.mul_eq_zero.1 this with u | u <;> omega
    have eq1 : p.x = b.x → a.x < b.x → p.y = b.y := by
      intro g1 g2
      have : (b.x - a.x) * (p.y - b.y) = 0 := by
        have e : (b.x - a.x) * (p.y - b.y) = tw a b p - (b.y - a.y) * (b.x - p.x) := by unfold tw; grind
        rw [e, t0, g1]; simp
      rcases Int.mul_eq_zero.1 this with u | u <;> omega
    exact tr (by omega) (by omega)

theorem onE_onS (p a b : Pt) : onE p a b = onS p a b := by
  by_cases hv : val p = true ∧ val a = true ∧ val b = true
  · obtain ⟨vp, va, vb⟩ := hv
    rw [Bool.eq_iff_iff]
    rcases cmpP_cases a b with h | h | h
    · have e := (cmpP_zero a b).1 h
      subst e
      rw [onE_iff, onS_iff vp va va]
      have an := cmpP_anti a p
      constructor
      · rintro ⟨_, _, _, _, _, k⟩
        rcases k with k | k
        · exact absurd rfl k
        · subst k; refine ⟨by unfold tw; grind, by omega, by omega⟩
      · rintro ⟨_, hx, hy⟩
        have e : p = a := by
          obtain ⟨a0, a1⟩ := a; obtain ⟨p0, p1⟩ := p; dsimp only at hx hy
          rw [Pt.mk.injEq]; omega
        subst e
        refine ⟨vp, vp, vp, (ori_zero vp vp vp).2 (by unfold tw; grind), by rw [(cmpP_zero p p).2 rfl]; decide, .inr rfl⟩
    · rw [← onE_swap, ← onS_swap]
      exact on_one vp vb va (by have := cmpP_anti a b; omega)
    · exact on_one vp va vb (by omega)
  · have e1 : onE p a b = false := by
      unfold onE
      cases e1 : val p <;> cases e2 : val a <;> cases e3 : val b <;> simp_all
    have e2 : onS p a b = false := by
      unfold onS
      cases e1 : val p <;> cases e2 : val a <;> cases e3 : val b <;> simp_all
    rw [e1, e2]

theorem touch_cases (p a b : Pt) : touch p a b = 0 ∨ touch p a b = 2 := by unfold touch; split <;> simp
theorem touch_two {p a b : Pt} : touch p a b = 2 ↔ (onE p a b = true ∧ p ≠ a ∧ p ≠ b) := by
  rw [onE_onS]; unfold touch
  by_cases h : onS p a b = true ∧ p ≠ a ∧ p ≠ b
  · rw [if_pos h]; exact ⟨fun _ => h, fun _ => rfl⟩
  · rw [if_neg h]; exact ⟨fun k => absurd k (by decide), fun k => absurd k h⟩

theorem onE_ori {p a b : Pt} (h : onE p a b = true) : ori a b p = 0 := (onE_iff.1 h).2.2.2.1

/-- The reference's answer is the program's. -/
theorem meet_meetR (a b c d : Pt) : meetR a b c d = meet a b c d := by
  unfold meetR meet
  by_cases h : ¬ (val a = true ∧ val b = true ∧ val c = true ∧ val d = true) ∨ a = b ∨ c = d
  · rw [if_pos h, if_pos h]
  rw [if_neg h, if_neg h]
  have va : val a = true := by grind
  have vb : val b = true := by grind
  have vc : val c = true := by grind
  have vd : val d = true := by grind
  by_cases hl : ori a b c = 0 ∧ ori a b d = 0
  · rw [if_pos hl, if_pos hl, inl_eq, hiP_eq (loP c d), loP_eq (hiP c d)]
  rw [if_neg hl, if_neg hl]
  by_cases hp : ori a b c * ori a b d < 0 ∧ ori c d a * ori c d b < 0
  · rw [if_pos hp, if_pos hp]
  rw [if_neg hp, if_neg hp]
  have t1 := touch_cases a c d
  have t2 := touch_cases b c d
  have t3 := touch_cases c a b
  have t4 := touch_cases d a b
  have s1 := @touch_two a c d
  have s2 := @touch_two b c d
  have s3 := @touch_two c a b
  have s4 := @touch_two d a b
  have zz : ∀ q r : Pt, val q = true → val r = true → ori q r q = 0 ∧ ori q r r = 0 := fun q r v1 v2 =>
    ⟨(ori_zero v1 v2 v1).2 (by unfold tw; grind), (ori_zero v1 v2 v2).2 (by unfold tw; grind)⟩
  by_cases hs : a = c ∨ a = d ∨ b = c ∨ b = d
  · rw [if_pos hs]
    -- an end in common: nobody touches
    have no1 : ¬ (onE a c d = true ∧ a ≠ c ∧ a ≠ d) := by
      rintro ⟨k1, k2, k3⟩
      have o := onE_ori k1
      rcases hs with e | e | e | e
      · exact k2 e
      · exact k3 e
      · subst e; exact hl ⟨(zz a b va vb).2, by rw [ori_rot, ← ori_rot a b d] at *; have := ori_rot b d a; have := ori_rot d a b; have := ori_rot a b d; omega⟩
      · subst e; exact hl ⟨by have := ori_rot c b a; have := ori_rot b a c; have := ori_swap a b c; omega, (zz a b va vb).2⟩
    have no2 : ¬ (onE b c d = true ∧ b ≠ c ∧ b ≠ d) := by
      rintro ⟨k1, k2, k3⟩
      have o := onE_ori k1
      rcases hs with e | e | e | e
      · subst e; exact hl ⟨(zz a b va vb).1, by have := ori_swap2 a b d; omega⟩
      · subst e; exact hl ⟨by have := ori_rot c a b; omega, (zz a b va vb).1⟩
      · exact k2 e
      · exact k3 e
    have no3 : ¬ (onE c a b = true ∧ c ≠ a ∧ c ≠ b) := by
      rintro ⟨k1, k2, k3⟩
      have o := onE_ori k1
      rcases hs with e | e | e | e
      · exact k2 e.symm
      · subst e; exact hl ⟨o, (zz a b va vb).1⟩
      · exact k3 e.symm
      · subst e; exact hl ⟨o, (zz a b va vb).2⟩
    have no4 : ¬ (onE d a b = true ∧ d ≠ a ∧ d ≠ b) := by
      rintro ⟨k1, k2, k3⟩
      have o := onE_ori k1
      rcases hs with e | e | e | e
      · subst e; exact hl ⟨(zz a b va vb).1, o⟩
      · exact k2 e.symm
      · subst e; exact hl ⟨(zz a b va vb).2, o⟩
      · exact k3 e.symm
    have z1 : touch a c d = 0 := t1.resolve_right fun k => no1 (s1.1 k)
    have z2 : touch b c d = 0 := t2.resolve_right fun k => no2 (s2.1 k)
    have z3 : touch c a b = 0 := t3.resolve_right fun k => no3 (s3.1 k)
    have z4 : touch d a b = 0 := t4.resolve_right fun k => no4 (s4.1 k)
    rw [z1, z2, z3, z4]; rfl
  · rw [if_neg hs]
    have n1 : a ≠ c := by grind
    have n2 : a ≠ d := by grind
    have n3 : b ≠ c := by grind
    have n4 : b ≠ d := by grind
    have u1 : touch a c d = 2 ↔ onE a c d = true := s1.trans ⟨fun k => k.1, fun k => ⟨k, n1, n2⟩⟩
    have u2 : touch b c d = 2 ↔ onE b c d = true := s2.trans ⟨fun k => k.1, fun k => ⟨k, n3, n4⟩⟩
    have u3 : touch c a b = 2 ↔ onE c a b = true := s3.trans ⟨fun k => k.1, fun k => ⟨k, n1.symm, n3.symm⟩⟩
    have u4 : touch d a b = 2 ↔ onE d a b = true := s4.trans ⟨fun k => k.1, fun k => ⟨k, n2.symm, n4.symm⟩⟩
    by_cases g : onE c a b = true ∨ onE d a b = true ∨ onE a c d = true ∨ onE b c d = true
    · rw [if_pos g]
      rcases g with g | g | g | g
      · have := u3.2 g; omega
      · have := u4.2 g; omega
      · have := u1.2 g; omega
      · have := u2.2 g; omega
    · rw [if_neg g]
      have z1 : touch a c d = 0 := t1.resolve_right fun k => g (.inr (.inr (.inl (u1.1 k))))
      have z2 : touch b c d = 0 := t2.resolve_right fun k => g (.inr (.inr (.inr (u2.1 k))))
      have z3 : touch c a b = 0 := t3.resolve_right fun k => g (.inl (u3.1 k))
      have z4 : touch d a b = 0 := t4.resolve_right fun k => g (.inr (.inl (u4.1 k)))
      rw [z1, z2, z3, z4]; rfl

end Go.Proofs.Ytandgbpbabmdfaa
