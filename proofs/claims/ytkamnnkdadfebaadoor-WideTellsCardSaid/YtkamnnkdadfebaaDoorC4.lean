import Derived.Test.YtkamnnkdadfebaaDoorA3
namespace Go.Proofs.YtkamnnkdadfebaaDoor
open Go.RowKit
set_option linter.unusedVariables false
attribute [local go_sem high] eq24 eq37


theorem orI {a b : Int} (h0 : 0 ≤ a) (h1 : a ≤ 4294967295) (h2 : 0 ≤ b) (h3 : b ≤ 4294967295) : bits .or .u64 (a * 4294967296) b = a * 4294967296 + b := by
  obtain ⟨A, rfl⟩ := Int.eq_ofNat_of_zero_le h0
  obtain ⟨B, rfl⟩ := Int.eq_ofNat_of_zero_le h2
  have h := bits_or_u64_nat (A * 4294967296) B (by omega) (by omega)
  have e : A * 4294967296 ||| B = A * 4294967296 + B := by
    have := Nat.shiftLeft_add_eq_or_of_lt (show B < 2 ^ 32 by omega) A
    rw [Nat.shiftLeft_eq] at this
    exact this.symm
  rw [e] at h
  exact h

/-- A number of 128 bits by quarters, divided by ten from the top. -/
theorem tenth (M : Int) (h0 : 0 ≤ M) (h1 : M < 340282366920938463463374607431768211456) :
    ∃ q0 q1 q2 q3 p0 p1 p2 p3 r1 r2 r3 v1 v2 v3 : Int,
      hiW M / 4294967296 = q0 ∧ hiW M % 4294967296 = q1 ∧ loW M / 4294967296 = q2 ∧ loW M % 4294967296 = q3 ∧
      q0 / 10 = p0 ∧ q0 % 10 = r1 ∧ r1 * 4294967296 + q1 = v1 ∧ v1 / 10 = p1 ∧ v1 % 10 = r2 ∧ r2 * 4294967296 + q2 = v2 ∧ v2 / 10 = p2 ∧ v2 % 10 = r3 ∧ r3 * 4294967296 + q3 = v3 ∧ v3 / 10 = p3 ∧ v3 % 10 = M % 10 ∧
      p0 * 4294967296 + p1 = hiW (M / 10) ∧ p2 * 4294967296 + p3 = loW (M / 10) ∧
      (0 ≤ q0 ∧ q0 ≤ 4294967295) ∧ (0 ≤ q1 ∧ q1 ≤ 4294967295) ∧ (0 ≤ q2 ∧ q2 ≤ 4294967295) ∧ (0 ≤ q3 ∧ q3 ≤ 4294967295) ∧
      (0 ≤ p0 ∧ p0 ≤ 4294967295) ∧ (0 ≤ p1 ∧ p1 ≤ 4294967295) ∧ (0 ≤ p2 ∧ p2 ≤ 4294967295) ∧ (0 ≤ p3 ∧ p3 ≤ 4294967295) ∧
      (0 ≤ r1 ∧ r1 ≤ 9) ∧ (0 ≤ r2 ∧ r2 ≤ 9) ∧ (0 ≤ r3 ∧ r3 ≤ 9) ∧ (0 ≤ v1 ∧ v1 ≤ 42949672959) ∧ (0 ≤ v2 ∧ v2 ≤ 42949672959) ∧ (0 ≤ v3 ∧ v3 ≤ 42949672959) := by
  refine ⟨_, _, _, _, _, _, _, _, _, _, _, _, _, _, rfl, rfl, rfl, rfl, rfl, rfl, rfl, rfl, rfl, rfl, rfl, rfl, rfl, rfl, ?_⟩
  unfold hiW loW
  refine ⟨?_, ?_, ?_, ?_, ?_, ?_, ?_, ?_, ?_, ?_, ?_, ?_, ?_, ?_, ?_, ?_, ?_, ?_⟩
  all_goals omega
end Go.Proofs.YtkamnnkdadfebaaDoor
