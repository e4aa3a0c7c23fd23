import Derived.Test.YtandgbpbabmdfaaMg
import Derived.Test.YtandgbpbabmdfaaT60
/- Three points are one triangle, in whatever order they are named: the plain law. -/
namespace Go.Proofs.Ytandgbpbabmdfaa

theorem cmpP_ne {p q : Pt} (h : p ≠ q) : cmpP p q ≠ 0 := fun e => h ((cmpP_zero p q).1 e)

theorem rotT_turn {p q r : Pt} (h1 : p ≠ q) (h2 : q ≠ r) (h3 : p ≠ r) : rotT q r p = rotT p q r := by
  have k1 := cmpP_ne h1
  have k2 := cmpP_ne h2
  have k3 := cmpP_ne h3
  have c1 := cmpP_pos p q
  have c2 := cmpP_pos p r
  have c3 := cmpP_pos q r
  have c4 := cmpP_anti q p
  have c5 := cmpP_anti r p
  have c6 := cmpP_anti r q
  have d1 := cmpP_neg p q
  have d2 := cmpP_neg p r
  have d3 := cmpP_neg q r
  unfold rotT
  (repeat' split) <;> first | rfl | omega

theorem srt_swap {a b c : Pt} (h1 : a ≠ b) (h2 : b ≠ c) (h3 : a ≠ c) : srt b a c = srt a b c := by
  have k1 := cmpP_ne h1
  have k2 := cmpP_ne h2
  have k3 := cmpP_ne h3
  have c1 := cmpP_pos a b
  have c2 := cmpP_pos a c
  have c3 := cmpP_pos b c
  have c4 := cmpP_anti b a
  have d1 := cmpP_neg a b
  have d2 := cmpP_neg a c
  have d3 := cmpP_neg b c
  unfold srt
  (repeat' split) <;> first | rfl | omega

theorem srt_swap2 {a b c : Pt} (h1 : a ≠ b) (h2 : b ≠ c) (h3 : a ≠ c) : srt a c b = srt a b c := by
  have k1 := cmpP_ne h1
  have k2 := cmpP_ne h2
  have k3 := cmpP_ne h3
  have c1 := cmpP_pos a b
  have c2 := cmpP_pos a c
  have c3 := cmpP_pos b c
  have c4 := cmpP_anti c b
  have d1 := cmpP_neg a b
  have d2 := cmpP_neg a c
  have d3 := cmpP_neg b c
  unfold srt
  (repeat' split) <;> first | rfl | omega

theorem srt_turn {a b c : Pt} (h1 : a ≠ b) (h2 : b ≠ c) (h3 : a ≠ c) : srt b c a = srt a b c :=
  (srt_swap2 h1.symm h3 h2).trans (srt_swap h1 h2 h3)

theorem srt_first {a b c : Pt} (h1 : cmpP a b ≤ 0) (h2 : cmpP a c ≤ 0) : (srt a b c).1 = a := by
  unfold srt
  (repeat' split) <;> first | rfl | omega

theorem srt_rotT {p q r : Pt} (h1 : p ≠ q) (h2 : q ≠ r) (h3 : p ≠ r) : srt (rotT p q r).a (rotT p q r).b (rotT p q r).c = srt p q r := by
  rcases rotT_cases p q r with h | h | h <;> rw [h]
  · exact srt_turn h1 h2 h3
  · exact (srt_turn h2 h3.symm h1.symm).trans (srt_turn h1 h2 h3)

theorem tw_same12 (a c : Pt) : tw a a c = 0 := by unfold tw; grind
theorem ori_apart {a b c : Pt} (h : ori a b c ≠ 0) : a ≠ b ∧ b ≠ c ∧ a ≠ c := by
  have hv := ori_vals h
  rw [ori_valid hv.1 hv.2.1 hv.2.2] at h
  have ht : tw a b c ≠ 0 := fun e => h (cmpI_zero.2 e)
  refine ⟨fun e => ht ?_, fun e => ht ?_, fun e => ht ?_⟩
  · rw [e]; exact tw_same12 _ _
  · rw [e]; exact tw_self2 _ _
  · rw [e]; exact tw_self1 _ _

/-- The same triangle from all five other orders. -/
theorem mkT_orders (a b c : Pt) : mkT a c b = mkT a b c ∧ mkT b a c = mkT a b c ∧ mkT b c a = mkT a b c ∧ mkT c a b = mkT a b c ∧ mkT c b a = mkT a b c := by
  have o1 : ori a c b = -ori a b c := ori_swap2 a b c
  have o2 : ori b a c = -ori a b c := ori_swap a b c
  have o3 : ori b c a = ori a b c := ori_rot a b c
  have o4 : ori c a b = ori a b c := (ori_rot b c a).trans o3
  have o5 : ori c b a = -ori a b c := (ori_swap b c a).trans (by rw [o3])
  rcases ori_cases a b c with h | h | h
  · rw [mkT_zero h, mkT_zero (by omega), mkT_zero (by omega), mkT_zero (by omega), mkT_zero (by omega), mkT_zero (by omega)]
    exact ⟨rfl, rfl, rfl, rfl, rfl⟩
  · obtain ⟨n1, n2, n3⟩ := ori_apart (a := a) (b := b) (c := c) (by omega)
    have r1 : rotT b c a = rotT a b c := rotT_turn n1 n2 n3
    have r2 : rotT c a b = rotT a b c := (rotT_turn n2 n3.symm n1.symm).trans r1
    rw [mkT_one h, mkT_neg (a := a) (b := c) (c := b) (by omega), mkT_neg (a := b) (b := a) (c := c) (by omega), mkT_one (a := b) (b := c) (c := a) (by omega), mkT_one (a := c) (b := a) (c := b) (by omega), mkT_neg (a := c) (b := b) (c := a) (by omega), r1, r2]
    exact ⟨rfl, rfl, rfl, rfl, rfl⟩
  · obtain ⟨n1, n2, n3⟩ := ori_apart (a := a) (b := b) (c := c) (by omega)
    have r1 : rotT c b a = rotT a c b := rotT_turn n3 n2.symm n1
    have r2 : rotT b a c = rotT a c b := (rotT_turn n2.symm n1.symm n3.symm).trans r1
    rw [mkT_neg h, mkT_one (a := a) (b := c) (c := b) (by omega), mkT_one (a := b) (b := a) (c := c) (by omega), mkT_neg (a := b) (b := c) (c := a) (by omega), mkT_neg (a := c) (b := a) (c := b) (by omega), mkT_one (a := c) (b := b) (c := a) (by omega), r1, r2]
    exact ⟨rfl, rfl, rfl, rfl, rfl⟩

/-- What the corners of a triangle of three points are. -/
theorem one_sort {a b c : Pt} {t : Tr} (hm : mkT a b c = (t, true)) :
    (a ≠ b ∧ b ≠ c ∧ a ≠ c) ∧ (t.a ≠ t.b ∧ t.b ≠ t.c ∧ t.a ≠ t.c) ∧ srt t.a t.b t.c = srt a b c ∧ (srt a b c).1 = t.a := by
  have ho : ori a b c ≠ 0 := mkT_yes (by rw [hm])
  obtain ⟨n1, n2, n3⟩ := ori_apart ho
  have hk := mk_ok (a := a) (b := b) (c := c) (by rw [hm])
  rw [hm] at hk
  have ho' := hk.2.1
  obtain ⟨m1, m2, m3⟩ := ori_apart (a := t.a) (b := t.b) (c := t.c) (by dsimp only at ho'; omega)
  have hs : srt t.a t.b t.c = srt a b c ∧ cmpP t.a t.b ≤ 0 ∧ cmpP t.a t.c ≤ 0 := by
    rcases ori_cases a b c with h | h | h
    · exact absurd h ho
    · rw [mkT_one h] at hm
      obtain rfl : rotT a b c = t := congrArg Prod.fst hm
      exact ⟨srt_rotT n1 n2 n3, rotT_least _ _ _⟩
    · rw [mkT_neg h] at hm
      obtain rfl : rotT a c b = t := congrArg Prod.fst hm
      exact ⟨(srt_rotT n3 n2.symm n1).trans (srt_swap2 n1 n2 n3), rotT_least _ _ _⟩
  exact ⟨⟨n1, n2, n3⟩, ⟨m1, m2, m3⟩, hs.1, by rw [← hs.1]; exact srt_first hs.2.1 hs.2.2⟩

/-- The edges and the corners of a triangle of three points. -/
theorem one_edges {t : Tr} (hv : valT t = true) (ho : ori t.a t.b t.c = 1) : twT t > 0 ∧ ∀ k : Nat, k < 3 →
    ori (cor t k) (cor t (k + 1)) (cor t (k + 2)) = 1 ∧ has t (cor t k) = true ∧ ins t (cor t k) = false := by
  obtain ⟨va, vb, vc⟩ := valT_vals hv
  have hd : 0 < tw t.a t.b t.c := (ori_sign va vb vc).1.mp (by omega)
  refine ⟨by rw [twT_yes hv]; exact hd, ?_⟩
  have r1 : ori t.b t.c t.a = 1 := (ori_rot t.a t.b t.c).trans ho
  have r2 : ori t.c t.a t.b = 1 := (ori_rot t.b t.c t.a).trans r1
  have z1 : ∀ p q, val p = true → val q = true → ori p q p = 0 := fun p q hp hq => by rw [ori_valid hp hq hp, tw_self1]; rfl
  have z2 : ∀ p q, val p = true → val q = true → ori p q q = 0 := fun p q hp hq => by rw [ori_valid hp hq hq, tw_self2]; rfl
  intro k hk
  obtain rfl | rfl | rfl : k = 0 ∨ k = 1 ∨ k = 2 := by omega
  · refine ⟨ho, ?_, ?_⟩
    · show has t t.a = true
      rw [has_yes hv va, z1 _ _ va vb, r1, z2 _ _ vc va]; rfl
    · show ins t t.a = false
      rw [ins_yes hv, z1 _ _ va vb]; rfl
  · refine ⟨r1, ?_, ?_⟩
    · show has t t.b = true
      rw [has_yes hv vb, z2 _ _ va vb, z1 _ _ vb vc, r2]; rfl
    · show ins t t.b = false
      rw [ins_yes hv, z2 _ _ va vb]; rfl
  · refine ⟨r2, ?_, ?_⟩
    · show has t t.c = true
      rw [has_yes hv vc, ho, z2 _ _ vb vc, z1 _ _ vc va]; rfl
    · show ins t t.c = false
      rw [ins_yes hv, ho, z2 _ _ vb vc]; rfl

end Go.Proofs.Ytandgbpbabmdfaa
