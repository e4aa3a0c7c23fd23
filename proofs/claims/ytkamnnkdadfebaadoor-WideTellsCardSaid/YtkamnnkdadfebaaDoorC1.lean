/- The decimal numeral of a number in two pieces. -/
import Derived.Lib.ItoaLen
namespace Go.Proofs.YtkamnnkdadfebaaDoor
open Go.Lib

/-- A numeral of k digits at the least. -/
def padDec (k r : Nat) : List UInt8 := List.replicate (k - (decDigits r).length) 48 ++ decDigits r

theorem dec_big {u : Nat} (h : ¬ u < 10) : decDigits u = decDigits (u / 10) ++ [UInt8.ofNat (48 + u % 10)] := by rw [decDigits, dif_neg h]
theorem dec_small {u : Nat} (h : u < 10) : decDigits u = [UInt8.ofNat (48 + u)] := by rw [decDigits, dif_pos h]

theorem pad_step (k r : Nat) (hk : 0 < k) : padDec (k + 1) r = padDec k (r / 10) ++ [UInt8.ofNat (48 + r % 10)] := by
  unfold padDec
  by_cases h : r < 10
  · rw [dec_small h, show r / 10 = 0 by omega, show r % 10 = r by omega, dec_small (by omega : 0 < 10)]
    simp only [List.length_cons, List.length_nil]
    obtain ⟨j, rfl⟩ : ∃ j, k = j + 1 := ⟨k - 1, by omega⟩
    rw [show j + 1 + 1 - (0 + 1) = j + 1 by omega, show j + 1 - (0 + 1) = j by omega, List.replicate_succ']
    rfl
  · rw [dec_big h, List.length_append, List.length_singleton, show k + 1 - ((decDigits (r / 10)).length + 1) = k - (decDigits (r / 10)).length by omega, List.append_assoc]

theorem dec_split (k q : Nat) (hq : 0 < q) : ∀ r, r < 10 ^ (k + 1) → decDigits (q * 10 ^ (k + 1) + r) = decDigits q ++ padDec (k + 1) r := by
  induction k with
  | zero =>
    intro r hr
    have hr : r < 10 := by simpa using hr
    rw [dec_big (by omega), show (q * 10 ^ (0 + 1) + r) / 10 = q by omega, show (q * 10 ^ (0 + 1) + r) % 10 = r by omega]
    unfold padDec
    rw [dec_small hr]
    rfl
  | succ k ih =>
    intro r hr
    have e : 10 ^ (k + 1 + 1) = 10 ^ (k + 1) * 10 := Nat.pow_succ ..
    have hp : 0 < 10 ^ (k + 1) := Nat.pow_pos (by omega)
    have hqp : 0 < q * 10 ^ (k + 1) := Nat.mul_pos hq hp
    have ea : q * 10 ^ (k + 1 + 1) = q * 10 ^ (k + 1) * 10 := by rw [e, Nat.mul_assoc]
    rw [pad_step (k + 1) r (by omega), ← List.append_assoc, ← ih (r / 10) (by omega), dec_big (by omega)]
    rw [show (q * 10 ^ (k + 1 + 1) + r) / 10 = q * 10 ^ (k + 1) + r / 10 by omega, show (q * 10 ^ (k + 1 + 1) + r) % 10 = r % 10 by omega]

theorem dec_split19 (q r : Nat) (hq : 0 < q) (hr : r < 10000000000000000000) : decDigits (q * 10000000000000000000 + r) = decDigits q ++ (List.replicate (19 - (decDigits r).length) 48 ++ decDigits r) := by
  have := dec_split 18 q hq r (by simpa using hr)
  simpa [padDec] using this
theorem nd_le (k : Nat) : ∀ r, r < 10 ^ (k + 1) → (decDigits r).length ≤ k + 1 := by
  induction k with
  | zero => intro r hr; rw [dec_small (by simpa using hr)]; simp
  | succ k ih =>
    intro r hr
    have e : 10 ^ (k + 1 + 1) = 10 ^ (k + 1) * 10 := Nat.pow_succ ..
    by_cases h : r < 10
    · rw [dec_small h]; simp
    · rw [dec_big h, List.length_append, List.length_singleton]
      have := ih (r / 10) (by omega)
      omega
theorem nd_le19 (r : Nat) (hr : r < 10000000000000000000) : (decDigits r).length ≤ 19 := nd_le 18 r (by simpa using hr)
end Go.Proofs.YtkamnnkdadfebaaDoor
