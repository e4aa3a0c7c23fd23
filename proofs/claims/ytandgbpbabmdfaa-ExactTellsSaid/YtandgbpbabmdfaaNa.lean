/- The laws of how two segments meet. -/
import Derived.Test.YtandgbpbabmdfaaMz
namespace Go.Proofs.Ytandgbpbabmdfaa

theorem meet_swap3 (a b c d : Pt) : meet c d a b = meet a b c d := by
  unfold meet
  by_cases h : ¬ (val a = true ∧ val b = true ∧ val c = true ∧ val d = true) ∨ a = b ∨ c = d
  · rw [if_pos h, if_pos (by grind)]
  · rw [if_neg h, if_neg (by grind)]
    have va : val a = true := by grind
    have vb : val b = true := by grind
    have vc : val c = true := by grind
    have vd : val d = true := by grind
    have nab : a ≠ b := by grind
    have ncd : c ≠ d := by grind
    have L : (ori c d a = 0 ∧ ori c d b = 0) ↔ (ori a b c = 0 ∧ ori a b d = 0) := by
      rw [ori_zero vc vd va, ori_zero vc vd vb, ori_zero va vb vc, ori_zero va vb vd]
      exact ⟨fun k => lines4 ncd k.1 k.2, fun k => lines4 nab k.1 k.2⟩
    by_cases hl : ori a b c = 0 ∧ ori a b d = 0
    · rw [if_pos hl, if_pos (L.2 hl), inl_eq, inl_eq, hiP_eq (loP a b), loP_eq (hiP a b)]
    · rw [if_neg hl, if_neg (fun k => hl (L.1 k))]
      by_cases hp : ori a b c * ori a b d < 0 ∧ ori c d a * ori c d b < 0
      · rw [if_pos hp, if_pos ⟨hp.2, hp.1⟩]
      · rw [if_neg hp, if_neg (fun k => hp ⟨k.2, k.1⟩)]
        by_cases hs : a = c ∨ a = d ∨ b = c ∨ b = d
        · rw [if_pos hs, if_pos (by grind)]
        · rw [if_neg hs, if_neg (by grind)]
          by_cases ho : onE c a b = true ∨ onE d a b = true ∨ onE a c d = true ∨ onE b c d = true
          · rw [if_pos ho, if_pos (by grind)]
          · rw [if_neg ho, if_neg (by grind)]

theorem meet_swap2 (a b c d : Pt) : meet a b d c = meet a b c d := by
  rw [← meet_swap3 a b d c, meet_swap1 c d a b, meet_swap3 a b c d]

theorem inl_cases (a b c d : Pt) : inl a b c d = 0 ∨ inl a b c d = 3 := by
  rw [inl_eq]; split
  · exact .inr rfl
  · exact .inl rfl

theorem meet_rng (a b c d : Pt) : meet a b c d = 0 ∨ meet a b c d = 1 ∨ meet a b c d = 2 ∨ meet a b c d = 3 := by
  have := inl_cases a b c d
  unfold meet; (repeat' split) <;> omega

theorem meet_self (a b : Pt) : meet a b b a = if val a = true ∧ val b = true ∧ a ≠ b then 3 else 0 := by
  by_cases h : val a = true ∧ val b = true ∧ a ≠ b
  · obtain ⟨va, vb, n⟩ := h
    rw [if_pos ⟨va, vb, n⟩]
    unfold meet
    have o1 : ori a b b = 0 := (ori_zero va vb vb).2 (by unfold tw; grind)
    have o2 : ori a b a = 0 := (ori_zero va vb va).2 (by unfold tw; grind)
    rw [if_neg (by grind), if_pos ⟨o1, o2⟩, inl_eq, loP_eq b a, hiP_eq b a]
    have z := cmpP_zero a b
    have an := cmpP_anti a b
    have e1 : ∀ p : Pt, hiP p p = p := fun p => by unfold hiP; split <;> rfl
    have e2 : ∀ p : Pt, loP p p = p := fun p => by unfold loP; split <;> rfl
    rw [e1, e2, if_pos]
    unfold loP hiP
    rcases cmpP_cases a b with k | k | k
    · exact absurd (z.1 k) n
    · rw [if_pos (by omega), if_pos (by omega)]; omega
    · rw [if_neg (by omega), if_neg (by omega)]; omega
  · rw [if_neg h]
    unfold meet
    rw [if_pos (by grind)]

theorem mul_minus {x y : Int} (hx : x = 0 ∨ x = 1 ∨ x = -1) (hy : y = 0 ∨ y = 1 ∨ y = -1) (h : x * y < 0) : x * y = -1 := by
  rcases hx with rfl | rfl | rfl <;> rcases hy with rfl | rfl | rfl <;> simp_all

theorem meet_one {a b c d : Pt} (h : meet a b c d = 1) : ori a b c * ori a b d = -1 ∧ ori c d a * ori c d b = -1 := by
  have := inl_cases a b c d
  unfold meet at h
  split at h
  · cases h
  split at h
  · omega
  split at h
  · rename_i k
    exact ⟨mul_minus (ori_cases _ _ _) (ori_cases _ _ _) k.1, mul_minus (ori_cases _ _ _) (ori_cases _ _ _) k.2⟩
  split at h
  · cases h
  split at h <;> cases h

theorem lohi (p q : Pt) : (loP p q = p ∧ hiP p q = q ∨ loP p q = q ∧ hiP p q = p) ∧ cmpP (loP p q) (hiP p q) ≤ 0 := by
  have := cmpP_anti p q
  unfold loP hiP
  by_cases k : cmpP p q > 0
  · rw [if_pos k, if_pos k]; exact ⟨.inr ⟨rfl, rfl⟩, by omega⟩
  · rw [if_neg k, if_neg k]; exact ⟨.inl ⟨rfl, rfl⟩, by omega⟩

/-- Between two of a line: on it. -/
theorem on_between {p a b : Pt} (vp : val p = true) (va : val a = true) (vb : val b = true) (n : a ≠ b) (ho : ori a b p = 0) (h1 : cmpP (loP a b) p ≤ 0) (h2 : cmpP p (hiP a b) ≤ 0) : onE p a b = true := by
  refine onE_iff.2 ⟨vp, va, vb, ho, ?_, .inl n⟩
  have a1 := cmpP_anti a p
  have a2 := cmpP_anti p b
  have e : cmpP a p * cmpP p b = cmpP p a * cmpP b p := by
    have : cmpP p a = -cmpP a p := by omega
    have : cmpP b p = -cmpP p b := by omega
    grind
  rcases (lohi a b).1 with ⟨k1, k2⟩ | ⟨k1, k2⟩
  · rw [k1] at h1; rw [k2] at h2
    exact Int.mul_nonneg_of_nonpos_of_nonpos h1 h2
  · rw [k1] at h1; rw [k2] at h2
    rw [e]; exact Int.mul_nonneg_of_nonpos_of_nonpos h2 h1

theorem meet_on {a b c d : Pt} (h : 2 ≤ meet a b c d) : onE a c d = true ∨ onE b c d = true ∨ onE c a b = true ∨ onE d a b = true := by
  have hi := inl_cases a b c d
  unfold meet at h
  split at h
  · omega
  rename_i g
  have va : val a = true := by grind
  have vb : val b = true := by grind
  have vc : val c = true := by grind
  have vd : val d = true := by grind
  have nab : a ≠ b := by grind
  have ncd : c ≠ d := by grind
  split at h
  · rename_i hl
    have L : ori c d a = 0 ∧ ori c d b = 0 := by
      rw [ori_zero vc vd va, ori_zero vc vd vb]
      rw [ori_zero va vb vc, ori_zero va vb vd] at hl
      exact lines4 nab hl.1 hl.2
    rw [inl_eq] at h
    split at h
    · rename_i hc
      obtain ⟨s1, l1⟩ := lohi a b
      obtain ⟨s2, l2⟩ := lohi c d
      obtain ⟨s3, l3⟩ := lohi (loP c d) (loP a b)
      obtain ⟨s4, l4⟩ := lohi (hiP c d) (hiP a b)
      -- the greater of the lesser ends is on the other
      have lt1 : cmpP (hiP (loP c d) (loP a b)) (hiP c d) ≤ 0 := by
        have : cmpP (loP (hiP c d) (hiP a b)) (hiP c d) ≤ 0 := by
          rcases s4 with ⟨k1, k2⟩ | ⟨k1, k2⟩
          · rw [k1, (cmpP_zero _ _).2 rfl]; decide
          · rw [k1, k2] at l4; rw [k1]; exact l4
        exact cmpP_trans (Int.le_of_lt hc) this
      have lt2 : cmpP (hiP (loP c d) (loP a b)) (hiP a b) ≤ 0 := by
        have : cmpP (loP (hiP c d) (hiP a b)) (hiP a b) ≤ 0 := by
          rcases s4 with ⟨k1, k2⟩ | ⟨k1, k2⟩
          · rw [k1, k2] at l4; rw [k1]; exact l4
          · rw [k1, (cmpP_zero _ _).2 rfl]; decide
        exact cmpP_trans (Int.le_of_lt hc) this
      rcases s3 with ⟨k1, k2⟩ | ⟨k1, k2⟩
      · -- it is a lesser end of a and b
        rw [k2] at lt1
        rw [k1, k2] at l3
        rcases s1 with ⟨m1, m2⟩ | ⟨m1, m2⟩
        · rw [m1] at lt1 l3; exact .inl (on_between va vc vd ncd L.1 l3 lt1)
        · rw [m1] at lt1 l3; exact .inr (.inl (on_between vb vc vd ncd L.2 l3 lt1))
      · rw [k2] at lt2
        rw [k1, k2] at l3
        rcases s2 with ⟨m1, m2⟩ | ⟨m1, m2⟩
        · rw [m1] at lt2 l3; exact .inr (.inr (.inl (on_between vc va vb nab hl.1 l3 lt2)))
        · rw [m1] at lt2 l3; exact .inr (.inr (.inr (on_between vd va vb nab hl.2 l3 lt2)))
    · omega
  split at h
  · omega
  split at h
  · omega
  split at h
  · rename_i k; grind
  · omega

end Go.Proofs.Ytandgbpbabmdfaa
