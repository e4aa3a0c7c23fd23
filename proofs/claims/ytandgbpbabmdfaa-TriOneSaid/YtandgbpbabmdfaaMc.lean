/- More small laws of the words of the geometry. -/
import Derived.Test.YtandgbpbabmdfaaMb
namespace Go.Proofs.Ytandgbpbabmdfaa

theorem ori_vals {a b c : Pt} (h : ori a b c ≠ 0) : val a = true ∧ val b = true ∧ val c = true := by
  unfold ori at h
  split at h
  · assumption
  · exact absurd rfl h

theorem mkT_yes {a b c : Pt} (h : (mkT a b c).2 = true) : ori a b c ≠ 0 := by
  intro e; rw [mkT_zero e] at h; cases h

theorem valT_ori {t : Tr} (h : valT t = true) : ori t.a t.b t.c ≠ 0 := by
  unfold valT at h
  exact mkT_yes (Bool.and_eq_true_iff.mp h).1

theorem valT_vals {t : Tr} (h : valT t = true) : val t.a = true ∧ val t.b = true ∧ val t.c = true := ori_vals (valT_ori h)
theorem valT_vals' {a0 a1 b0 b1 c0 c1 : Int} (h : valT ⟨⟨a0, a1⟩, ⟨b0, b1⟩, ⟨c0, c1⟩⟩ = true) : val ⟨a0, a1⟩ = true ∧ val ⟨b0, b1⟩ = true ∧ val ⟨c0, c1⟩ = true := valT_vals h

theorem twT_yes {t : Tr} (h : valT t = true) : twT t = tw t.a t.b t.c := by unfold twT; rw [if_pos h]
theorem twT_no {t : Tr} (h : valT t = false) : twT t = 0 := by unfold twT; rw [if_neg (by rw [h]; decide)]

theorem tmod_self_bd (k n : Int) (hn : 0 < n) : -n < k.tmod n ∧ k.tmod n < n := by
  by_cases h : 0 ≤ k
  · rw [Int.tmod_eq_emod_of_nonneg h]
    have := Int.emod_nonneg k (by omega : n ≠ 0); have := Int.emod_lt_of_pos k hn; omega
  · have e : k = -(-k) := by omega
    rw [e, Int.neg_tmod, Int.tmod_eq_emod_of_nonneg (by omega)]
    have := Int.emod_nonneg (-k) (by omega : n ≠ 0); have := Int.emod_lt_of_pos (-k) hn; omega
theorem round_emod (k n : Int) (hn : 0 < n) : (k.tmod n + n).tmod n = k % n := by
  obtain ⟨h1, h2⟩ := tmod_self_bd k n hn
  rw [Int.tmod_eq_emod_of_nonneg (by omega), Int.add_emod_right]
  by_cases h : 0 ≤ k
  · rw [Int.tmod_eq_emod_of_nonneg h, Int.emod_emod]
  · have e : k = -(-k) := by omega
    rw [e, Int.neg_tmod, Int.tmod_eq_emod_of_nonneg (by omega)]
    have h3 : n ∣ (-k) - (-k) % n := Int.dvd_self_sub_emod
    rw [Int.emod_eq_emod_iff_emod_sub_eq_zero]
    apply Int.emod_eq_zero_of_dvd
    have e2 : -(-k % n) - - -k = (-k) - (-k) % n := by omega
    rw [e2]; exact h3

/-- Between two numbers. -/
def btw (n a b : Int) : Bool := decide (min a b ≤ n) && decide (n ≤ max a b)

theorem onS_bool (a0 a1 b0 b1 c0 c1 : Int) : onS ⟨a0, a1⟩ ⟨b0, b1⟩ ⟨c0, c1⟩ = (val ⟨a0, a1⟩ && val ⟨b0, b1⟩ && val ⟨c0, c1⟩ && (tw ⟨b0, b1⟩ ⟨c0, c1⟩ ⟨a0, a1⟩ == 0) && btw a0 b0 c0 && btw a1 b1 c1) := by
  unfold onS btw
  dsimp only
  rw [Bool.eq_iff_iff]
  simp only [Bool.and_eq_true, decide_eq_true_eq, beq_iff_eq]

end Go.Proofs.Ytandgbpbabmdfaa
