/- The plain laws of what is in a triangle. -/
import Derived.Test.YtandgbpbabmdfaaMe
namespace Go.Proofs.Ytandgbpbabmdfaa

theorem rotT_least (p q r : Pt) : cmpP (rotT p q r).a (rotT p q r).b ≤ 0 ∧ cmpP (rotT p q r).a (rotT p q r).c ≤ 0 := by
  have h1 := cmpP_pos p q
  have h2 := cmpP_pos p r
  have h3 := cmpP_pos q r
  have h4 := cmpP_pos q p
  have h5 := cmpP_pos r p
  have h6 := cmpP_pos r q
  unfold rotT
  (repeat' split) <;> dsimp only <;> omega
theorem rotT_self {p q r : Pt} (h1 : cmpP p q ≤ 0) (h2 : cmpP p r ≤ 0) : rotT p q r = ⟨p, q, r⟩ := by
  unfold rotT; rw [if_neg (by omega)]
theorem rotT_cases (p q r : Pt) : rotT p q r = ⟨p, q, r⟩ ∨ rotT p q r = ⟨q, r, p⟩ ∨ rotT p q r = ⟨r, p, q⟩ := by
  unfold rotT
  split
  · split
    · exact .inr (.inr rfl)
    · exact .inr (.inl rfl)
  · exact .inl rfl
theorem ori_rotT (p q r : Pt) : ori (rotT p q r).a (rotT p q r).b (rotT p q r).c = ori p q r := by
  rcases rotT_cases p q r with h | h | h <;> rw [h]
  · exact ori_rot p q r
  · exact (ori_rot q r p).trans (ori_rot p q r)

theorem mkT_rot {a b c : Pt} (h : ori a b c = 1) : mkT (rotT a b c).a (rotT a b c).b (rotT a b c).c = (rotT a b c, true) := by
  rw [mkT_one (by rw [ori_rotT]; exact h)]
  obtain ⟨h1, h2⟩ := rotT_least a b c
  rw [rotT_self h1 h2]

theorem valT_rot {a b c : Pt} (h : ori a b c = 1) : valT (rotT a b c) = true := by
  unfold valT; rw [mkT_rot h]; simp

/-- What a triangle of three points is. -/
theorem mk_ok {a b c : Pt} (h : (mkT a b c).2 = true) : valT (mkT a b c).1 = true ∧ ori (mkT a b c).1.a (mkT a b c).1.b (mkT a b c).1.c = 1 ∧
    ∀ p, (p = (mkT a b c).1.a ∨ p = (mkT a b c).1.b ∨ p = (mkT a b c).1.c) ↔ (p = a ∨ p = b ∨ p = c) := by
  rcases ori_cases a b c with k | k | k
  · rw [mkT_zero k] at h; cases h
  · rw [mkT_one k]
    refine ⟨valT_rot k, (ori_rotT a b c).trans k, fun p => ?_⟩
    rcases rotT_cases a b c with e | e | e <;> rw [e] <;> grind
  · rw [mkT_neg k]
    have k' : ori a c b = 1 := by rw [ori_swap2, k]; rfl
    refine ⟨valT_rot k', (ori_rotT a c b).trans k', fun p => ?_⟩
    rcases rotT_cases a c b with e | e | e <;> rw [e] <;> grind

theorem mk_no {a b c : Pt} (h : (mkT a b c).2 = false) : (mkT a b c).1 = ⟨⟨0, 0⟩, ⟨0, 0⟩, ⟨0, 0⟩⟩ ∧ ori a b c = 0 := by
  rcases ori_cases a b c with k | k | k
  · rw [mkT_zero k]; exact ⟨rfl, k⟩
  · rw [mkT_one k] at h; cases h
  · rw [mkT_neg k] at h; cases h

theorem valT_null : valT ⟨⟨0, 0⟩, ⟨0, 0⟩, ⟨0, 0⟩⟩ = false := by decide
theorem has_null (p : Pt) : has ⟨⟨0, 0⟩, ⟨0, 0⟩, ⟨0, 0⟩⟩ p = false := has_no (by rw [valT_null]; rfl)
theorem ins_null (p : Pt) : ins ⟨⟨0, 0⟩, ⟨0, 0⟩, ⟨0, 0⟩⟩ p = false := ins_no1 valT_null

/-- How many of the first k edges have a point on their left; on themselves. -/
def cP (t : Tr) (p : Pt) : Nat → Int
  | 0 => 0
  | k + 1 => cP t p k + (if ori (cor t k) (cor t (k + 1)) p > 0 then 1 else 0)
def cO (t : Tr) (p : Pt) : Nat → Int
  | 0 => 0
  | k + 1 => cO t p k + (if onS p (cor t k) (cor t (k + 1)) = true then 1 else 0)

theorem cP_bd (t : Tr) (p : Pt) (k : Nat) : 0 ≤ cP t p k ∧ cP t p k ≤ k := by
  induction k with
  | zero => simp [cP]
  | succ k ih => simp only [cP]; split <;> omega
theorem cO_bd (t : Tr) (p : Pt) (k : Nat) : 0 ≤ cO t p k ∧ cO t p k ≤ k := by
  induction k with
  | zero => simp [cO]
  | succ k ih => simp only [cO]; split <;> omega

theorem cor_0 (t : Tr) : cor t 0 = t.a := rfl
theorem cor_1 (t : Tr) : cor t 1 = t.b := rfl
theorem cor_2 (t : Tr) : cor t 2 = t.c := rfl
theorem cor_3 (t : Tr) : cor t 3 = t.a := rfl

theorem cP_3 (t : Tr) (p : Pt) : cP t p 3 = (if ori t.a t.b p > 0 then 1 else 0) + (if ori t.b t.c p > 0 then 1 else 0) + (if ori t.c t.a p > 0 then 1 else 0) := by
  show 0 + (if ori (cor t 0) (cor t 1) p > 0 then (1 : Int) else 0) + (if ori (cor t 1) (cor t 2) p > 0 then 1 else 0) + (if ori (cor t 2) (cor t 3) p > 0 then 1 else 0) = _
  rw [cor_0, cor_1, cor_2, cor_3]; omega
theorem cO_3 (t : Tr) (p : Pt) : cO t p 3 = (if onS p t.a t.b = true then 1 else 0) + (if onS p t.b t.c = true then 1 else 0) + (if onS p t.c t.a = true then 1 else 0) := by
  show 0 + (if onS p (cor t 0) (cor t 1) = true then (1 : Int) else 0) + (if onS p (cor t 1) (cor t 2) = true then 1 else 0) + (if onS p (cor t 2) (cor t 3) = true then 1 else 0) = _
  rw [cor_0, cor_1, cor_2, cor_3]; omega

theorem onS_iff {p a b : Pt} (hp : val p = true) (ha : val a = true) (hb : val b = true) :
    onS p a b = true ↔ tw a b p = 0 ∧ (min a.x b.x ≤ p.x ∧ p.x ≤ max a.x b.x) ∧ (min a.y b.y ≤ p.y ∧ p.y ≤ max a.y b.y) := by
  unfold onS; rw [hp, ha, hb]; simp only [Bool.and_eq_true, decide_eq_true_eq, Bool.true_and, and_assoc]
theorem onS_val {p a b : Pt} (h : onS p a b = true) : val p = true := by
  unfold onS at h; simp only [Bool.and_eq_true] at h; exact h.1.1.1.1.1

section
variable {t : Tr} {p : Pt}
theorem ori_sign {a b c : Pt} (ha : val a = true) (hb : val b = true) (hc : val c = true) : (ori a b c > 0 ↔ tw a b c > 0) ∧ (0 ≤ ori a b c ↔ 0 ≤ tw a b c) ∧ (ori a b c = 0 ↔ tw a b c = 0) := by
  rw [ori_valid ha hb hc]
  have h1 := @cmpI_pos (tw a b c)
  have h2 := @cmpI_neg (tw a b c)
  have h3 := @cmpI_zero (tw a b c)
  omega

/-- Each edge of a triangle: on it means on its line, and on no other's wrong hand. -/
theorem on_edges (hv : valT t = true) (ho : ori t.a t.b t.c = 1) (hp : val p = true) :
    (onS p t.a t.b = true ↔ tw t.a t.b p = 0 ∧ 0 ≤ tw t.b t.c p ∧ 0 ≤ tw t.c t.a p) ∧
    (onS p t.b t.c = true ↔ tw t.b t.c p = 0 ∧ 0 ≤ tw t.c t.a p ∧ 0 ≤ tw t.a t.b p) ∧
    (onS p t.c t.a = true ↔ tw t.c t.a p = 0 ∧ 0 ≤ tw t.a t.b p ∧ 0 ≤ tw t.b t.c p) := by
  obtain ⟨va, vb, vc⟩ := valT_vals hv
  have hd : 0 < tw t.a t.b t.c := (ori_sign va vb vc).1.mp (by omega)
  have h1 : ∀ {a b c : Pt}, val a = true → val b = true → 0 < tw a b c → (onS p a b = true ↔ tw a b p = 0 ∧ 0 ≤ tw b c p ∧ 0 ≤ tw c a p) := by
    intro a b c ha hb hd
    rw [onS_iff hp ha hb]
    exact ⟨fun ⟨h, hx, hy⟩ => ⟨h, edge_in hd h hx hy⟩, fun ⟨h, k1, k2⟩ => ⟨h, edge_on hd h k1 k2⟩⟩
  exact ⟨h1 va vb hd, h1 vb vc (by rw [tw_rot]; exact hd), h1 vc va (by rw [tw_rot, tw_rot]; exact hd)⟩

theorem corner_iff (hv : valT t = true) (ho : ori t.a t.b t.c = 1) :
    (p = t.a ↔ tw t.c t.a p = 0 ∧ tw t.a t.b p = 0) ∧ (p = t.b ↔ tw t.a t.b p = 0 ∧ tw t.b t.c p = 0) ∧ (p = t.c ↔ tw t.b t.c p = 0 ∧ tw t.c t.a p = 0) := by
  obtain ⟨va, vb, vc⟩ := valT_vals hv
  have hd : 0 < tw t.a t.b t.c := (ori_sign va vb vc).1.mp (by omega)
  have h1 : ∀ {a b c : Pt}, tw a b c ≠ 0 → (p = b ↔ tw a b p = 0 ∧ tw b c p = 0) := fun {a b c} hd =>
    ⟨fun e => by rw [e]; exact ⟨tw_self2 a b, tw_self1 b c⟩, fun ⟨k1, k2⟩ => edge_two hd k1 k2⟩
  exact ⟨h1 (by rw [tw_rot, tw_rot]; omega), h1 (by omega), h1 (by rw [tw_rot]; omega)⟩

/-- The law of TriInside. -/
theorem inside_law (hv : valT t = true) (ho : ori t.a t.b t.c = 1) :
    (ins t p = true ↔ cP t p 3 = 3) ∧ (has t p = true ↔ (cP t p 3 = 3 ∨ cO t p 3 > 0)) ∧ (cO t p 3 = 2 ↔ (p = t.a ∨ p = t.b ∨ p = t.c)) ∧ (ins t p = true → cO t p 3 = 0) := by
  obtain ⟨va, vb, vc⟩ := valT_vals hv
  have hd : 0 < tw t.a t.b t.c := (ori_sign va vb vc).1.mp (by omega)
  rw [cP_3, cO_3, ins_yes hv]
  by_cases hp : val p = true
  · rw [has_yes hv hp]
    obtain ⟨o1, o2, o3⟩ := on_edges hv ho hp
    obtain ⟨k1, k2, k3⟩ := corner_iff (p := p) hv ho
    obtain ⟨s1, s2, s3⟩ := ori_sign va vb hp
    obtain ⟨u1, u2, u3⟩ := ori_sign vb vc hp
    obtain ⟨w1, w2, w3⟩ := ori_sign vc va hp
    have hs := tw_sum t.a t.b t.c p
    simp only [Bool.and_eq_true, decide_eq_true_eq]
    rw [k1, k2, k3]
    simp only [o1, o2, o3]
    (repeat' split) <;> omega
  · have hp' : val p = false := by simpa using hp
    have e1 : ori t.a t.b p = 0 := ori_not (.inr (.inr hp'))
    have e2 : ori t.b t.c p = 0 := ori_not (.inr (.inr hp'))
    have e3 : ori t.c t.a p = 0 := ori_not (.inr (.inr hp'))
    have f1 : onS p t.a t.b ≠ true := fun h => hp (onS_val h)
    have f2 : onS p t.b t.c ≠ true := fun h => hp (onS_val h)
    have f3 : onS p t.c t.a ≠ true := fun h => hp (onS_val h)
    rw [has_no (by rw [hp']; simp), e1, e2, e3, if_neg f1, if_neg f2, if_neg f3]
    have g : ¬ (p = t.a ∨ p = t.b ∨ p = t.c) := by
      rintro (e | e | e) <;> rw [e] at hp <;> simp [va, vb, vc] at hp
    simp [g]

/-- The ways in which a point lies, each test told. -/
theorem inside_cat (hv : valT t = true) (ho : ori t.a t.b t.c = 1) {p0 p1 a0 a1 b0 b1 c0 c1 : Int} (hk : ∀ q, (q = t.a ∨ q = t.b ∨ q = t.c) ↔ (q = ⟨a0, a1⟩ ∨ q = ⟨b0, b1⟩ ∨ q = ⟨c0, c1⟩)) :
    ∃ i h c3 po e2 e0 ka kb kc : Bool, ins t ⟨p0, p1⟩ = i ∧ has t ⟨p0, p1⟩ = h ∧ (cP t ⟨p0, p1⟩ 3 == 3) = c3 ∧ decide (0 < cO t ⟨p0, p1⟩ 3) = po ∧ (cO t ⟨p0, p1⟩ 3 == 2) = e2 ∧ (cO t ⟨p0, p1⟩ 3 == 0) = e0 ∧
      (p0 == a0 && p1 == a1) = ka ∧ (p0 == b0 && p1 == b1) = kb ∧ (p0 == c0 && p1 == c1) = kc ∧
      ((i = true ∧ h = true ∧ c3 = true ∧ po = false ∧ e2 = false ∧ e0 = true ∧ ka = false ∧ kb = false ∧ kc = false) ∨
       (i = false ∧ h = true ∧ c3 = false ∧ po = true ∧ e2 = false ∧ e0 = false ∧ ka = false ∧ kb = false ∧ kc = false) ∨
       (i = false ∧ h = false ∧ c3 = false ∧ po = false ∧ e2 = false ∧ e0 = true ∧ ka = false ∧ kb = false ∧ kc = false) ∨
       (i = false ∧ h = true ∧ c3 = false ∧ po = true ∧ e2 = true ∧ e0 = false ∧ ka = true) ∨
       (i = false ∧ h = true ∧ c3 = false ∧ po = true ∧ e2 = true ∧ e0 = false ∧ ka = false ∧ kb = true) ∨
       (i = false ∧ h = true ∧ c3 = false ∧ po = true ∧ e2 = true ∧ e0 = false ∧ ka = false ∧ kb = false ∧ kc = true)) := by
  refine ⟨_, _, _, _, _, _, _, _, _, rfl, rfl, rfl, rfl, rfl, rfl, rfl, rfl, rfl, ?_⟩
  obtain ⟨l1, l2, l3, l4⟩ := inside_law (p := ⟨p0, p1⟩) hv ho
  have b := cO_bd t ⟨p0, p1⟩ 3
  rw [hk] at l3
  simp only [Pt.mk.injEq] at l3
  have ka : (p0 == a0 && p1 == a1) = true ↔ (p0 = a0 ∧ p1 = a1) := by simp
  have kb : (p0 == b0 && p1 == b1) = true ↔ (p0 = b0 ∧ p1 = b1) := by simp
  have kc : (p0 == c0 && p1 == c1) = true ↔ (p0 = c0 ∧ p1 = c1) := by simp
  rw [← ka, ← kb, ← kc] at l3
  have hf : ∀ (x : Bool), x = false ↔ ¬ x = true := by intro x; cases x <;> simp
  simp only [hf, beq_iff_eq, decide_eq_true_eq]
  generalize (p0 == a0 && p1 == a1) = xa at *
  generalize (p0 == b0 && p1 == b1) = xb at *
  generalize (p0 == c0 && p1 == c1) = xc at *
  clear ka kb kc
  generalize cO t ⟨p0, p1⟩ 3 = o at *
  generalize cP t ⟨p0, p1⟩ 3 = m at *
  generalize ins t ⟨p0, p1⟩ = i at *
  generalize has t ⟨p0, p1⟩ = h at *
  clear hv ho hk hf
  cases i <;> cases h <;> cases xa <;> cases xb <;> cases xc <;> grind

end
end Go.Proofs.Ytandgbpbabmdfaa
