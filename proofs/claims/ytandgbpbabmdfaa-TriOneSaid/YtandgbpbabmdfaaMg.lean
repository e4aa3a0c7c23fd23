/- The plain law of a triangle's parts. -/
import Derived.Test.YtandgbpbabmdfaaMf
namespace Go.Proofs.Ytandgbpbabmdfaa

/-- How many of the first k edges make a triangle with a point; what their areas are together. -/
def pN (t : Tr) (p : Pt) : Nat → Int
  | 0 => 0
  | k + 1 => pN t p k + (if (mkT (cor t k) (cor t (k + 1)) p).2 = true then 1 else 0)
def pS (t : Tr) (p : Pt) : Nat → Int
  | 0 => 0
  | k + 1 => pS t p k + (if (mkT (cor t k) (cor t (k + 1)) p).2 = true then twT (mkT (cor t k) (cor t (k + 1)) p).1 else 0)

theorem twT_bd (t : Tr) : -1125899906842624 ≤ twT t ∧ twT t ≤ 1125899906842624 := by
  cases h : valT t
  · rw [twT_no h]; omega
  · rw [twT_yes h]
    obtain ⟨ha, hb, hc⟩ := valT_vals h
    obtain ⟨x1, x2, x3, x4⟩ := val_true ha
    obtain ⟨y1, y2, y3, y4⟩ := val_true hb
    obtain ⟨u1, u2, u3, u4⟩ := val_true hc
    obtain ⟨m1, m2⟩ := mul_bd (a := t.b.x - t.a.x) (b := t.c.y - t.a.y) (by omega) (by omega) (by omega) (by omega)
    obtain ⟨m3, m4⟩ := mul_bd (a := t.b.y - t.a.y) (b := t.c.x - t.a.x) (by omega) (by omega) (by omega) (by omega)
    unfold tw; omega
theorem pN_bd (t : Tr) (p : Pt) (k : Nat) : 0 ≤ pN t p k ∧ pN t p k ≤ k := by
  induction k with
  | zero => simp [pN]
  | succ k ih => simp only [pN]; split <;> omega
theorem pS_bd (t : Tr) (p : Pt) (k : Nat) : -(1125899906842624 * k) ≤ pS t p k ∧ pS t p k ≤ 1125899906842624 * k := by
  induction k with
  | zero => simp [pS]
  | succ k ih =>
    simp only [pS]
    have := twT_bd (mkT (cor t k) (cor t (k + 1)) p).1
    split <;> omega

theorem tw_rotT (p q r : Pt) : tw (rotT p q r).a (rotT p q r).b (rotT p q r).c = tw p q r := by
  rcases rotT_cases p q r with h | h | h <;> rw [h]
  · exact tw_rot p q r
  · exact (tw_rot q r p).trans (tw_rot p q r)

/-- A part: is there one, and how great. -/
theorem part_of {a b p : Pt} (ha : val a = true) (hb : val b = true) (hp : val p = true) (h : 0 ≤ tw a b p) :
    ((mkT a b p).2 = true ↔ 0 < tw a b p) ∧ (if (mkT a b p).2 = true then twT (mkT a b p).1 else 0) = tw a b p := by
  obtain ⟨s1, s2, s3⟩ := ori_sign ha hb hp
  by_cases k : 0 < tw a b p
  · have o : ori a b p = 1 := by have := ori_cases a b p; omega
    rw [mkT_one o]
    refine ⟨by simp [k], ?_⟩
    rw [if_pos rfl, twT_yes (valT_rot o), tw_rotT]
  · have e : tw a b p = 0 := by omega
    rw [mkT_zero (s3.mpr e)]
    simp [e]

theorem pN_3 (t : Tr) (p : Pt) : pN t p 3 = (if (mkT t.a t.b p).2 = true then 1 else 0) + (if (mkT t.b t.c p).2 = true then 1 else 0) + (if (mkT t.c t.a p).2 = true then 1 else 0) := by
  show 0 + (if (mkT (cor t 0) (cor t 1) p).2 = true then (1 : Int) else 0) + (if (mkT (cor t 1) (cor t 2) p).2 = true then 1 else 0) + (if (mkT (cor t 2) (cor t 3) p).2 = true then 1 else 0) = _
  rw [cor_0, cor_1, cor_2, cor_3]; omega
theorem pS_3 (t : Tr) (p : Pt) : pS t p 3 = (if (mkT t.a t.b p).2 = true then twT (mkT t.a t.b p).1 else 0) + (if (mkT t.b t.c p).2 = true then twT (mkT t.b t.c p).1 else 0) + (if (mkT t.c t.a p).2 = true then twT (mkT t.c t.a p).1 else 0) := by
  show 0 + (if (mkT (cor t 0) (cor t 1) p).2 = true then twT (mkT (cor t 0) (cor t 1) p).1 else (0 : Int)) + (if (mkT (cor t 1) (cor t 2) p).2 = true then twT (mkT (cor t 1) (cor t 2) p).1 else 0) + (if (mkT (cor t 2) (cor t 3) p).2 = true then twT (mkT (cor t 2) (cor t 3) p).1 else 0) = _
  rw [cor_0, cor_1, cor_2, cor_3]; omega

/-- The law of TriParts: the tests told, in each of the ways in which a point of the triangle lies. -/
theorem parts_cat {t : Tr} (hv : valT t = true) (ho : ori t.a t.b t.c = 1) {p0 p1 : Int} (hh : has t ⟨p0, p1⟩ = true) :
    pS t ⟨p0, p1⟩ 3 = twT t ∧ ∃ i ka kb kc : Bool, ins t ⟨p0, p1⟩ = i ∧ (p0 == t.a.x && p1 == t.a.y) = ka ∧ (p0 == t.b.x && p1 == t.b.y) = kb ∧ (p0 == t.c.x && p1 == t.c.y) = kc ∧
      ((i = true ∧ pN t ⟨p0, p1⟩ 3 = 3 ∧ ka = false ∧ kb = false ∧ kc = false) ∨ (i = false ∧ pN t ⟨p0, p1⟩ 3 = 2 ∧ ka = false ∧ kb = false ∧ kc = false) ∨
       (i = false ∧ pN t ⟨p0, p1⟩ 3 = 1 ∧ ka = true) ∨ (i = false ∧ pN t ⟨p0, p1⟩ 3 = 1 ∧ ka = false ∧ kb = true) ∨ (i = false ∧ pN t ⟨p0, p1⟩ 3 = 1 ∧ ka = false ∧ kb = false ∧ kc = true)) := by
  have hp : val ⟨p0, p1⟩ = true := by unfold has at hh; simp only [Bool.and_eq_true] at hh; exact hh.1.1.1.2
  obtain ⟨va, vb, vc⟩ := valT_vals hv
  have hd : 0 < tw t.a t.b t.c := (ori_sign va vb vc).1.mp (by omega)
  obtain ⟨k1, k2, k3⟩ := corner_iff (p := ⟨p0, p1⟩) hv ho
  obtain ⟨s1, s2, s3⟩ := ori_sign va vb hp
  obtain ⟨u1, u2, u3⟩ := ori_sign vb vc hp
  obtain ⟨w1, w2, w3⟩ := ori_sign vc va hp
  have hs := tw_sum t.a t.b t.c ⟨p0, p1⟩
  rw [has_yes hv hp] at hh
  simp only [Bool.and_eq_true, decide_eq_true_eq] at hh
  obtain ⟨⟨g1, g2⟩, g3⟩ := hh
  obtain ⟨n1, a1⟩ := part_of va vb hp (s2.mp g1)
  obtain ⟨n2, a2⟩ := part_of vb vc hp (u2.mp g2)
  obtain ⟨n3, a3⟩ := part_of vc va hp (w2.mp g3)
  refine ⟨by rw [pS_3, a1, a2, a3, twT_yes hv]; exact hs, _, _, _, _, rfl, rfl, rfl, rfl, ?_⟩
  have hi := ins_yes (p := ⟨p0, p1⟩) hv
  have hi' : ins t ⟨p0, p1⟩ = true ↔ 0 < tw t.a t.b ⟨p0, p1⟩ ∧ 0 < tw t.b t.c ⟨p0, p1⟩ ∧ 0 < tw t.c t.a ⟨p0, p1⟩ := by
    rw [hi]; simp only [Bool.and_eq_true, decide_eq_true_eq]; omega
  have e : ∀ q : Pt, (p0 == q.x && p1 == q.y) = true ↔ (⟨p0, p1⟩ : Pt) = q := by
    rintro ⟨x, y⟩; simp
  rw [← e] at k1 k2 k3
  rw [pN_3]
  simp only [n1, n2, n3]
  have hf : ∀ (x : Bool), x = false ↔ ¬ x = true := by intro x; cases x <;> simp
  simp only [hf, hi', k1, k2, k3]
  (repeat' split) <;> omega

end Go.Proofs.Ytandgbpbabmdfaa
