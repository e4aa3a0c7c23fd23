/- What "along" means: two places of the way that are within all three sides. -/
import Derived.Test.YtandgbpbabmdfaaMr
namespace Go.Proofs.Ytandgbpbabmdfaa

/-- At the place n of d of a way from x to y (both reckoned on one side): how far, d times. -/
def atW (x y d n : Int) : Int := d * x + n * (y - x)

/-- What holds of what is left of the way behind some sides: the places that are within all of them are those from s.1 to s.2. -/
def Left (s : (Int × Int) × (Int × Int)) (I : Int → Int → Prop) : Prop :=
  0 < s.1.2 ∧ 0 < s.2.2 ∧ (∀ d n, 0 < d → (I d n ↔ s.1.1 * d ≤ n * s.1.2 ∧ n * s.2.2 ≤ s.2.1 * d)) ∧ ∀ d n, 0 < d → I d n → 0 ≤ n ∧ n ≤ d

theorem lessP_iff (a b c d : Int) : lessP a b c d = true ↔ a * d < c * b := by
  unfold lessP cmpI
  rw [decide_eq_true_eq]
  (repeat' split) <;> omega

/-- Of fractions: ahead, and ahead. -/
theorem frac_le {a b n d : Int} (hb : 0 < b) (hd : 0 < d) {c e : Int} (he : 0 < e) (h1 : a * d ≤ n * b) (h2 : c * b ≤ a * e) : c * d ≤ n * e := by
  have k1 : a * d * e ≤ n * b * e := Int.mul_le_mul_of_nonneg_right h1 (by omega)
  have k2 : c * b * d ≤ a * e * d := Int.mul_le_mul_of_nonneg_right h2 (by omega)
  have k3 : b * (c * d) ≤ b * (n * e) := by
    have e1 : b * (c * d) = c * b * d := by grind
    have e2 : b * (n * e) = n * b * e := by grind
    have e3 : a * e * d = a * d * e := by grind
    omega
  exact Int.le_of_mul_le_mul_left k3 hb

theorem step_left {x y : Int} {s s' : (Int × Int) × (Int × Int)} {I : Int → Int → Prop} (h : Left s I) (hs : alStep x y s = some s') :
    Left s' (fun d n => I d n ∧ 0 ≤ atW x y d n) := by
  obtain ⟨⟨f0, f1⟩, ⟨t0, t1⟩⟩ := s
  obtain ⟨hf, ht, hI, hB⟩ := h
  dsimp only at hf ht hI
  unfold alStep at hs
  split at hs
  · cases hs
  · rename_i hn
    split at hs
    · rename_i hx
      have hy : 0 < y := by omega
      have key : ∀ d n, 0 < d → (0 ≤ atW x y d n ↔ (-x) * d ≤ n * (y - x)) := by
        intro d n hd; unfold atW; grind
      split at hs
      · rename_i hl
        rw [lessP_iff] at hl
        obtain rfl := Option.some.inj hs
        refine ⟨by dsimp only; omega, ht, fun d n hd => ?_, fun d n hd hh => hB d n hd hh.1⟩
        dsimp only at hl ⊢
        rw [hI d n hd, key d n hd]
        exact ⟨fun ⟨⟨a, b⟩, c⟩ => ⟨c, b⟩, fun ⟨c, b⟩ => ⟨⟨frac_le (by omega) hd hf c (by omega), b⟩, c⟩⟩
      · rename_i hl
        rw [lessP_iff] at hl
        obtain rfl := Option.some.inj hs
        refine ⟨hf, ht, fun d n hd => ?_, fun d n hd hh => hB d n hd hh.1⟩
        dsimp only at hl ⊢
        rw [hI d n hd, key d n hd]
        exact ⟨fun ⟨a, _⟩ => a, fun ⟨a, b⟩ => ⟨⟨a, b⟩, frac_le hf hd (by omega) a (by omega)⟩⟩
    · rename_i hx
      split at hs
      · rename_i hy
        have hx' : 0 < x := by omega
        have key : ∀ d n, 0 < d → (0 ≤ atW x y d n ↔ n * (x - y) ≤ x * d) := by
          intro d n hd; unfold atW; grind
        have frac : ∀ {a b c e n d : Int}, 0 < b → 0 < d → 0 < e → n * b ≤ a * d → a * e ≤ c * b → n * e ≤ c * d := by
          intro a b c e n d hb hd he h1 h2
          have := frac_le (a := -a) (b := b) (n := -n) (d := d) (c := -c) (e := e) hb hd he (by grind) (by grind)
          grind
        split at hs
        · rename_i hl
          rw [lessP_iff] at hl
          obtain rfl := Option.some.inj hs
          refine ⟨hf, by dsimp only; omega, fun d n hd => ?_, fun d n hd hh => hB d n hd hh.1⟩
          dsimp only at hl ⊢
          rw [hI d n hd, key d n hd]
          exact ⟨fun ⟨⟨a, b⟩, c⟩ => ⟨a, c⟩, fun ⟨a, c⟩ => ⟨⟨a, frac (by omega) hd ht c (by omega)⟩, c⟩⟩
        · rename_i hl
          rw [lessP_iff] at hl
          obtain rfl := Option.some.inj hs
          refine ⟨hf, ht, fun d n hd => ?_, fun d n hd hh => hB d n hd hh.1⟩
          dsimp only at hl ⊢
          rw [hI d n hd, key d n hd]
          exact ⟨fun ⟨a, _⟩ => a, fun ⟨a, b⟩ => ⟨⟨a, b⟩, frac ht hd (by omega) b (by omega)⟩⟩
      · rename_i hy
        obtain rfl := Option.some.inj hs
        refine ⟨hf, ht, fun d n hd => ?_, fun d n hd hh => hB d n hd hh.1⟩
        dsimp only
        rw [← hI d n hd]
        refine ⟨fun h => h.1, fun h => ⟨h, ?_⟩⟩
        obtain ⟨b1, b2⟩ := hB d n hd h
        have m1 : 0 ≤ (d - n) * x := Int.mul_nonneg (by omega) (by omega)
        have m2 : 0 ≤ n * y := Int.mul_nonneg (by omega) (by omega)
        unfold atW; grind

theorem step_none {x y : Int} {s : (Int × Int) × (Int × Int)} {I : Int → Int → Prop} (h : Left s I) (hs : alStep x y s = none)
    {d n1 n2 : Int} (hd : 0 < d) (i1 : I d n1) (i2 : I d n2) (hn : n1 < n2) (a1 : 0 ≤ atW x y d n1) (a2 : 0 ≤ atW x y d n2) : False := by
  obtain ⟨hf, ht, hI, hB⟩ := h
  obtain ⟨b1, b2⟩ := hB d n1 hd i1
  obtain ⟨b3, b4⟩ := hB d n2 hd i2
  unfold alStep at hs
  split at hs
  · rename_i hc
    rcases hc with ⟨hx, hy⟩ | ⟨hx, hy⟩
    · have m1 : 0 ≤ n1 * (-y) := Int.mul_nonneg b1 (by omega)
      have m2 : 0 < (d - n1) * (-x) := Int.mul_pos (by omega) (by omega)
      unfold atW at a1; grind
    · have m2 : 0 < n2 * (-y) := Int.mul_pos (by omega) (by omega)
      subst hx
      unfold atW at a2; grind
  · (repeat' split at hs) <;> cases hs

/-- The place n of d of the way from a to b is within all three sides. -/
def feas (t : Tr) (a b : Pt) (d n : Int) : Prop :=
  0 ≤ n ∧ n ≤ d ∧ 0 ≤ atW (tw t.a t.b a) (tw t.a t.b b) d n ∧ 0 ≤ atW (tw t.b t.c a) (tw t.b t.c b) d n ∧ 0 ≤ atW (tw t.c t.a a) (tw t.c t.a b) d n

theorem start_left : Left ((0, 1), (1, 1)) (fun d n => 0 ≤ n ∧ n ≤ d) :=
  ⟨by decide, by decide, fun d n _ => by dsimp only; omega, fun d n _ h => h⟩

theorem left_two {s : (Int × Int) × (Int × Int)} {I : Int → Int → Prop} (h : Left s I) :
    lessP s.1.1 s.1.2 s.2.1 s.2.2 = true ↔ ∃ d n1 n2, 0 < d ∧ n1 < n2 ∧ I d n1 ∧ I d n2 := by
  obtain ⟨⟨f0, f1⟩, ⟨t0, t1⟩⟩ := s
  obtain ⟨hf, ht, hI, hB⟩ := h
  dsimp only at hf ht hI ⊢
  rw [lessP_iff]
  have hp : 0 < f1 * t1 := Int.mul_pos hf ht
  constructor
  · intro hl
    refine ⟨f1 * t1, f0 * t1, t0 * f1, hp, hl, (hI _ _ hp).2 ⟨by grind, ?_⟩, (hI _ _ hp).2 ⟨?_, by grind⟩⟩
    · have k := Int.mul_le_mul_of_nonneg_right (Int.le_of_lt hl) (Int.le_of_lt ht)
      grind
    · have k := Int.mul_le_mul_of_nonneg_right (Int.le_of_lt hl) (Int.le_of_lt hf)
      grind
  · rintro ⟨d, n1, n2, hd, hn, i1, i2⟩
    obtain ⟨c1, _⟩ := (hI d n1 hd).1 i1
    obtain ⟨_, c2⟩ := (hI d n2 hd).1 i2
    have k1 := Int.mul_le_mul_of_nonneg_right c1 (Int.le_of_lt ht)
    have k2 := Int.mul_le_mul_of_nonneg_right c2 (Int.le_of_lt hf)
    have k3 : n1 * (f1 * t1) < n2 * (f1 * t1) := Int.mul_lt_mul_of_pos_right hn hp
    have k4 : d * (f0 * t1) < d * (t0 * f1) := by grind
    exact Int.lt_of_mul_lt_mul_left k4 (Int.le_of_lt hd)

theorem left_congr {s : (Int × Int) × (Int × Int)} {I J : Int → Int → Prop} (h : Left s I) (e : ∀ d n, I d n ↔ J d n) : Left s J :=
  ⟨h.1, h.2.1, fun d n hd => (e d n).symm.trans (h.2.2.1 d n hd), fun d n hd j => h.2.2.2 d n hd ((e d n).2 j)⟩

/-- Along: two places of the way are within all three sides. -/
theorem along_iff {t : Tr} {a b : Pt} (h : valT t = true ∧ val a = true ∧ val b = true ∧ a ≠ b) :
    along t a b = true ↔ ∃ d n1 n2, 0 < d ∧ n1 < n2 ∧ feas t a b d n1 ∧ feas t a b d n2 := by
  have u1 : alK t a b 1 = alStep (tw t.a t.b a) (tw t.a t.b b) ((0, 1), (1, 1)) := rfl
  have u2 : alK t a b 2 = (alK t a b 1).bind (alStep (tw t.b t.c a) (tw t.b t.c b)) := rfl
  have u3 : alK t a b 3 = (alK t a b 2).bind (alStep (tw t.c t.a a) (tw t.c t.a b)) := rfl
  cases e1 : alK t a b 1 with
  | none =>
    rw [along_none (alK_none e1 3 (by omega))]
    refine ⟨fun h => (by cases h), ?_⟩
    rintro ⟨d, n1, n2, hd, hn, ⟨p1, p2, p3, _⟩, q1, q2, q3, _⟩
    exact (step_none start_left (u1.symm.trans e1) hd ⟨p1, p2⟩ ⟨q1, q2⟩ hn p3 q3).elim
  | some s1 =>
    have L1 := step_left start_left (u1.symm.trans e1)
    rw [e1] at u2
    replace u2 : alK t a b 2 = alStep (tw t.b t.c a) (tw t.b t.c b) s1 := u2
    cases e2 : alK t a b 2 with
    | none =>
      rw [along_none (alK_none e2 3 (by omega))]
      refine ⟨fun h => (by cases h), ?_⟩
      rintro ⟨d, n1, n2, hd, hn, ⟨p1, p2, p3, p4, _⟩, q1, q2, q3, q4, _⟩
      exact (step_none L1 (u2.symm.trans e2) hd ⟨⟨p1, p2⟩, p3⟩ ⟨⟨q1, q2⟩, q3⟩ hn p4 q4).elim
    | some s2 =>
      have L2 := step_left L1 (u2.symm.trans e2)
      rw [e2] at u3
      replace u3 : alK t a b 3 = alStep (tw t.c t.a a) (tw t.c t.a b) s2 := u3
      cases e3 : alK t a b 3 with
      | none =>
        rw [along_none e3]
        refine ⟨fun h => (by cases h), ?_⟩
        rintro ⟨d, n1, n2, hd, hn, ⟨p1, p2, p3, p4, p5⟩, q1, q2, q3, q4, q5⟩
        exact (step_none L2 (u3.symm.trans e3) hd ⟨⟨⟨p1, p2⟩, p3⟩, p4⟩ ⟨⟨⟨q1, q2⟩, q3⟩, q4⟩ hn p5 q5).elim
      | some s3 =>
        have L3 := step_left L2 (u3.symm.trans e3)
        rw [along_yes h e3, left_two L3]
        constructor
        · rintro ⟨d, n1, n2, hd, hn, ⟨⟨⟨⟨p1, p2⟩, p3⟩, p4⟩, p5⟩, ⟨⟨⟨q1, q2⟩, q3⟩, q4⟩, q5⟩
          exact ⟨d, n1, n2, hd, hn, ⟨p1, p2, p3, p4, p5⟩, q1, q2, q3, q4, q5⟩
        · rintro ⟨d, n1, n2, hd, hn, ⟨p1, p2, p3, p4, p5⟩, q1, q2, q3, q4, q5⟩
          exact ⟨d, n1, n2, hd, hn, ⟨⟨⟨⟨p1, p2⟩, p3⟩, p4⟩, p5⟩, ⟨⟨⟨q1, q2⟩, q3⟩, q4⟩, q5⟩

/-- From the other end. -/
theorem feas_swap {t : Tr} {a b : Pt} {d n : Int} (h : feas t a b d n) : feas t b a d (d - n) := by
  obtain ⟨h1, h2, h3, h4, h5⟩ := h
  have k : ∀ x y : Int, atW y x d (d - n) = atW x y d n := by intro x y; unfold atW; grind
  exact ⟨by omega, by omega, by rw [k]; exact h3, by rw [k]; exact h4, by rw [k]; exact h5⟩

theorem along_swap1 {t : Tr} {a b : Pt} (h : along t a b = true) : along t b a = true := by
  by_cases hc : valT t = true ∧ val a = true ∧ val b = true ∧ a ≠ b
  · obtain ⟨d, n1, n2, hd, hn, f1, f2⟩ := (along_iff hc).1 h
    exact (along_iff ⟨hc.1, hc.2.2.1, hc.2.1, fun e => hc.2.2.2 e.symm⟩).2 ⟨d, d - n2, d - n1, hd, by omega, feas_swap f2, feas_swap f1⟩
  · rw [along_no hc] at h; cases h
theorem along_swap (t : Tr) (a b : Pt) : along t a b = along t b a := by
  rw [Bool.eq_iff_iff]; exact ⟨along_swap1, along_swap1⟩

end Go.Proofs.Ytandgbpbabmdfaa
